import Derived.Test.YtideaimlnipkoaaShEven
namespace Go.Proofs.Ytideaimlnipkoaa
open Go.RowKit
set_option linter.unusedVariables false
set_option linter.unusedSimpArgs false
def z5 : List Int := [0, 0, 0, 0, 0]
def M43 : Int := 8796093022208
theorem parts_post {X : List (Int × Int)} {bal : List Int} {B : Int} (h : Small 5 8796093022208 X) (hl : X.length ≤ 18) (hb : bal.length = 5) (hB : 0 ≤ B) (hB2 : B ≤ 1125899906842624) (hw : Within bal B) (h0 : (amts X).sum = 0) (hn : X ≠ []) : postF bal X = some (postL bal X) :=
  post_small (M := 8796093022208) (B := B) (by rw [hb]; exact h) (by omega) (by omega) hB hw (by omega) (by omega) h0 hn
theorem parts_bd {X : List (Int × Int)} {bal : List Int} {B : Int} (h : Small 5 8796093022208 X) (hl : X.length ≤ 18) (hB : 0 ≤ B) (hw : Within bal B) : Within (postL bal X) (B + 158329674399744) :=
  (postL_bd (M := 8796093022208) (by omega) X bal B hB hw h.amt).mono (by omega)
theorem within_bds {l : List Int} {B : Int} (h : Within l B) (hB : B ≤ 9223372036854775807) : ∀ x ∈ l, Bd x := fun x hx => by have := h x hx; unfold Bd; omega
theorem amts_app (a b : List (Int × Int)) : (amts (a ++ b)).sum = (amts a).sum + (amts b).sum := by unfold amts; rw [List.map_append, List.sum_append]
/-- An account that there isn't. -/
theorem post_away {M : Int} {n : Nat} {bal : List Int} {X : List (Int × Int)} {q : Int} (h : Small n M X) (hq : (bal.length : Int) ≤ q) : postF bal (X ++ [(q, 0)]) = none := by
  unfold postF
  split
  · unfold behindF
    rw [if_neg]
    intro ha
    have := List.all_eq_true.1 ha (q, 0) (by simp)
    unfold thereB at this
    simp at this
    omega
  · rfl
def neg1 (e : Int × Int) : Int × Int := (e.1, -e.2)
theorem neg_small {n : Nat} {M : Int} {X : List (Int × Int)} (h : Small n M X) : Small n M (X.map neg1) := by
  refine ⟨fun e he => ?_, fun e he => ?_⟩ <;>
  · obtain ⟨x, hx, rfl⟩ := List.mem_map.1 he
    first | exact h.acc x hx | (have := h.amt x hx; unfold neg1; simp only; omega)
theorem neg_amts : ∀ (X : List (Int × Int)), (amts (X.map neg1)).sum = -(amts X).sum := by
  intro X
  induction X with
  | nil => rfl
  | cons e X ih => unfold amts at *; rw [List.map_cons, List.map_cons, List.map_cons, List.sum_cons, List.sum_cons, ih]; unfold neg1; simp only; omega
theorem neg_part (i : Nat) : ∀ (X : List (Int × Int)), ((X.map neg1).map (part i)).sum = -((X.map (part i)).sum) := by
  intro X
  induction X with
  | nil => rfl
  | cons e X ih =>
    rw [List.map_cons, List.map_cons, List.map_cons, List.sum_cons, List.sum_cons, ih]
    unfold neg1 part
    simp only
    split <;> omega
/-- The opposite takes it back. -/
theorem postL_back {X : List (Int × Int)} {bal : List Int} (h : ∀ e ∈ X, 0 ≤ e.1 ∧ e.1 < (bal.length : Int)) : postL (postL bal X) (X.map neg1) = bal := by
  apply ext_getD (d := 0) (by rw [postL_length, postL_length])
  intro i hi
  rw [postL_at (X.map neg1) (postL bal X) i (fun e he => by
    obtain ⟨x, hx, rfl⟩ := List.mem_map.1 he
    rw [postL_length]; exact h x hx) (by rw [postL_length]; exact hi), postL_at X bal i h hi, neg_part]
  omega
theorem Two.cellP {w0 W : World} {L : List Ent} {ga gb ca cb : Nat} {ba bb : List Int} (h : Two w0 L ga ba ca gb bb cb W) {g : Nat} {cs : Array Value} {t : TypeId} (hm : (g, cs, t) ∈ L) (i : Nat) {v : Value} (hv : cs[i]? = some v) : W.cell? ⟨g, i, none⟩ = some v ∧ W.frozen? ⟨g, i, none⟩ = false := by
  obtain ⟨M, hM, hs⟩ := h.sts
  exact ⟨hM.cellM (hs _ hm) i hv, hM.frozenM (hs _ hm) i⟩
theorem Two.drew {w0 W : World} {L : List Ent} {ga gb ca cb : Nat} {ba bb : List Int} (h : Two w0 L ga ba ca gb bb cb W) : Two w0 L ga ba ca gb bb cb W.drew := h.below (Below.refl _ _).drew
theorem Two.openR {w0 W : World} {L Rr : List Ent} {ga gb ca cb : Nat} {ba bb : List Int} (h : Two w0 (Rr ++ L) ga ba ca gb bb cb W) : ∃ A, Sts w0 (A ++ (Rr ++ L)) W ∧ ∀ Rr' W', Sts w0 (A ++ (Rr' ++ L)) W' → Two w0 (Rr' ++ L) ga ba ca gb bb cb W' := by
  obtain ⟨R, a, cap, hR, R', a', cap', hR', hS⟩ := h
  refine ⟨(ga, scells a' ba.length cap' ca, 49) :: (R' ++ ((gb, scells a bb.length cap cb, 49) :: R)), hS.lit (by simp), fun Rr' W' h' => ⟨R, a, cap, hR, R', a', cap', hR', h'.lit (by simp)⟩⟩
theorem two_none {w0 W : World} {L : List Ent} {ga gb ca cb : Nat} {ba bb : List Int} {A : Option Addr} {n c : Nat} {es : List (Int × Int)} (h : Two w0 L ga ba ca gb bb cb W) (hE : Ents W A n es) (hn : n ≤ 900000) (hl : ba.length ≤ 64) (hb : ∀ x ∈ ba, Bd x) (hc : ca ≤ 1000000) (e : postF ba es = none) :
    Calls Try.prog 10 #[.pointer (some ⟨ga, 0, none⟩), .slice A n c] W fun e w' => e = .returned (.bool false) ∧ Two w0 L ga ba ca gb bb cb w' := h.turn fun _ hs => post_none es hs hE hn hl hb hc e
theorem two_yes {w0 W : World} {L : List Ent} {ga gb ca cb : Nat} {ba bb v : List Int} {A : Option Addr} {n c : Nat} {es : List (Int × Int)} (h : Two w0 L ga ba ca gb bb cb W) (hE : Ents W A n es) (hn : n ≤ 900000) (hl : ba.length ≤ 64) (hb : ∀ x ∈ ba, Bd x) (hc : ca ≤ 1000000) (e : postF ba es = some v) :
    Calls Try.prog 10 #[.pointer (some ⟨ga, 0, none⟩), .slice A n c] W fun e w' => e = .returned (.bool true) ∧ Two w0 L ga v (ca + 1) gb bb cb w' := h.turn fun _ hs => post_yes es hs hE hn hl hb hc e
theorem src_ent {w0 W : World} {L : List Ent} {g m size : Nat} {cs : Array Value} {t : TypeId} (h : Sts w0 L W) (hm : (g, cs, t) ∈ L) (hs : cs.size = m * size) : Src W (some ⟨g, 0, none⟩) m size cs.toList := Src.blk ((sts_iff.1 h).1 _ hm).1 hs
set_option maxHeartbeats 64000000 in
set_option maxRecDepth 100000 in
theorem sheetParts_walk (A1 : Option Addr) (n1 c1 : Nat) (es1 : List (Int × Int)) (A2 : Option Addr) (n2 c2 : Nat) (es2 : List (Int × Int)) (bad : Int) (w : World) (h1 : Pairs w A1 n1 es1) (h2 : Pairs w A2 n2 es2) (hbad : -9223372036854775808 ≤ bad ∧ bad ≤ 9223372036854775807) :
    Calls Try.prog 6 #[.slice A1 n1 c1, .slice A2 n2 c2, .int .i64 bad] w fun e w' => e = .returned (.bool true) ∧ Below w.heap.size w w' := by
  obtain ⟨i0, hi, hz, hs1, hs2⟩ := info_parts entry_info
  have N1 := h1.most; have N2 := h2.most
  have H1 := Lib.hid h1.ents; have H2 := Lib.hid h2.ents
  clear h1 h2
  have HS0 := Lib.hid (Sts.nil w)
  go_enter Try.func6, Try.ntmps6
  go_wp2_with fail
  refine (new_calls (w0 := w) (L := []) 5 5 (by decide) HS0.out).mono ?_
  rintro e w1 ⟨ga, rfl, hs⟩
  obtain ⟨Ra, aa, pa, hRa, hSa⟩ : ShAt w [] ga z5 0 w1 := hs
  have HRA := Lib.hid hRa; have HSA := Lib.hid hSa
  clear hRa hSa HS0
  go_wp2_with fail
  refine (new_calls (w0 := w) (L := (ga, scells aa z5.length pa 0, 49) :: (Ra ++ [])) 5 5 (by decide) HSA.out).mono ?_
  rintro e w2 ⟨gb, rfl, hs⟩
  have T2 := Lib.hid (show Two w [] ga z5 0 gb z5 0 w2 from Two.swap ⟨Ra, aa, pa, HRA.out, hs⟩)
  clear hs HRA HSA
  go_wp2_with fail
  refine (even_calls A1 n1 c1 es1 _ (H1.out.below T2.out.bel) N1).mono ?_
  rintro e w3 ⟨m1, Rx, ax, px, hm1, _, rfl, hRx, hSx⟩
  have RX := Lib.hid hRx; have T3 := Lib.hid (T2.out.join hSx)
  have SX := Lib.hid (evenL_small (someL_small es1 m1) (by unfold someL; simp; omega)); have ZX := Lib.hid (evenL_sum (someL es1 m1))
  have NX := Lib.hid (show evenL (someL es1 m1) ≠ [] by unfold evenL; simp)
  have hlx : (evenL (someL es1 m1)).length = m1 + 1 := by have := hRx.length; rw [ecs_length] at this; omega
  have LX := Lib.hid hlx
  generalize evenL (someL es1 m1) = X at *
  clear hRx hSx T2 H1 hlx
  go_wp2_with fail
  refine (even_calls A2 n2 c2 es2 _ (H2.out.below T3.out.bel) N2).mono ?_
  rintro e w4 ⟨m2, Ry, ay, py, hm2, _, rfl, hRy, hSy⟩
  have RY := Lib.hid hRy; have T4 := Lib.hid (T3.out.join hSy)
  have SY := Lib.hid (evenL_small (someL_small es2 m2) (by unfold someL; simp; omega)); have ZY := Lib.hid (evenL_sum (someL es2 m2))
  have NY := Lib.hid (show evenL (someL es2 m2) ≠ [] by unfold evenL; simp)
  have hly : (evenL (someL es2 m2)).length = m2 + 1 := by have := hRy.length; rw [ecs_length] at this; omega
  have LY := Lib.hid hly
  generalize evenL (someL es2 m2) = Y at *
  clear hRy hSy T3 H2 hly
  have PX := Lib.hid (T4.out.src RX.out (fun x hx => by simp [hx])); have PY := Lib.hid (T4.out.src RY.out (fun x hx => by simp [hx]))
  have HSE := Lib.hid ((Sts.nil w4).add (g := w4.heap.size) rfl #[] 27)
  go_wp2_with (first
    | (at_builtin; (refine row_append (by rfl) (.tmp 29) (.tmp 30) 35 rfl [] [] Try.underlying35 hi hz hs1 hs2 rfl (by omega) (Row.empty _ _ _) HSE.out rfl rfl (PX.out.alloc _) (ecs_one _) (by omega) (by omega) ?_); rintro R5 a5 c5 w5 hR5 hS5; simp only [Nat.zero_add, List.nil_append] at hR5 hS5 ⊢)
    | (at_builtin; (refine row_append (by rfl) (.tmp 31) (.tmp 32) 35 rfl [] [] Try.underlying35 hi hz hs1 hs2 rfl (by omega) hR5 hS5 rfl rfl (PY.out.below hS5.bel) (ecs_one _) (by omega) (by omega) ?_); rintro R6 a6 c6 w6 hR6 hS6; simp only [List.nil_append] at hR6 hS6 ⊢))
  have hR6' : Row R6 27 2 a6 (m1 + 1 + (m2 + 1)) c6 (ecs (X ++ Y)) := by rw [ecs_app]; exact hR6
  have SXY := Lib.hid (SX.out.app SY.out)
  have LXY := Lib.hid (show (X ++ Y).length = m1 + 1 + (m2 + 1) by rw [List.length_append, LX.out, LY.out])
  have ZXY := Lib.hid (show (amts (X ++ Y)).sum = 0 by rw [amts_app, ZX.out, ZY.out]; rfl)
  have NXY := Lib.hid (show X ++ Y ≠ [] by have := NX.out; simp [this])
  have HE6 := Lib.hid (⟨hR6'.srcIn hS6 (fun x hx => by simp [hx]), SXY.out.bd (by omega) (by omega)⟩ : Ents w6 a6 (m1 + 1 + (m2 + 1)) (X ++ Y))
  have T6 := Lib.hid (T4.out.below hS6.bel)
  clear hR5 hS5 hR6 hS6 hR6' PX PY HSE T4
  have hW0 : Within z5 0 := fun x hx => by simp [z5] at hx; omega
  have hp1 := parts_post SXY.out (by rw [LXY.out]; omega) (bal := z5) rfl (by omega) (by omega) hW0 ZXY.out NXY.out
  have hp2 := parts_post SX.out (by rw [LX.out]; omega) (bal := z5) rfl (by omega) (by omega) hW0 ZX.out NX.out
  have hWx := parts_bd SX.out (by rw [LX.out]; omega) (by omega) hW0
  have hWxy := parts_bd SXY.out (by rw [LXY.out]; omega) (by omega) hW0
  have hp3 := parts_post SY.out (by rw [LY.out]; omega) (bal := postL z5 X) (by rw [postL_length]; rfl) (by omega) (by omega) hWx ZY.out NY.out
  rw [← postL_app] at hp3
  have HP1 := Lib.hid hp1; have HP2 := Lib.hid hp2; have HP3 := Lib.hid hp3; have WX := Lib.hid hWx; have WXY := Lib.hid hWxy
  have LBX := Lib.hid (show (postL z5 X).length = 5 by rw [postL_length]; rfl)
  have LBXY := Lib.hid (show (postL z5 (X ++ Y)).length = 5 by rw [postL_length]; rfl)
  have HBACK := Lib.hid (postL_back (bal := z5) (fun e he => SXY.out.acc e he))
  clear hp1 hp2 hp3 hWx hWxy hW0
  refine (T6.out.turn fun L' hs => post_yes (X ++ Y) hs HE6.out (by omega) (by decide) (bds_of _ rfl) (by decide) HP1.out).mono ?_
  rintro e w7 ⟨rfl, hs⟩
  have T7 := Lib.hid hs
  have EX := Lib.hid (⟨hs.src RX.out (fun x hx => by simp [hx]), SX.out.bd (by omega) (by omega)⟩ : Ents w7 ax (m1 + 1) X)
  clear hs T6 HE6
  go_wp2_with fail
  refine (T7.out.turn2 fun L' hs => post_yes X hs EX.out (by omega) (by decide) (bds_of _ rfl) (by decide) HP2.out).mono ?_
  rintro e w8 ⟨rfl, hs⟩
  have T8 := Lib.hid hs
  have EY := Lib.hid (⟨hs.src RY.out (fun x hx => by simp [hx]), SY.out.bd (by omega) (by omega)⟩ : Ents w8 ay (m2 + 1) Y)
  generalize postL z5 X = bx at *
  generalize postL z5 (X ++ Y) = bxy at *
  clear hs T7 EX
  go_wp2_with fail
  refine (T8.out.turn2 fun L' hs => post_yes Y hs EY.out (by omega) (by rw [LBX.out]; omega) (within_bds WX.out (by omega)) (by omega) HP3.out).mono ?_
  rintro e w9 ⟨rfl, hs⟩
  have T9 := Lib.hid hs
  clear hs T8 EY WX HP2 HP3 LBX
  go_wp2_with fail
  refine (two_bal T9.out (by rw [LBXY.out]; omega)).mono ?_
  rintro e w10 ⟨R1, a1, p1, rfl, hR1, hT⟩
  rw [LBXY.out] at hR1 ⊢
  have RR1 := Lib.hid hR1; have T10 := Lib.hid hT
  clear hR1 hT T9
  go_wp2_with fail
  refine (two_bal2 T10.out (by rw [LBXY.out]; omega)).mono ?_
  rintro e w11 ⟨R2, a2, p2, rfl, hR2, hT⟩
  rw [LBXY.out] at hR2 ⊢
  have P1 := Lib.hid (hT.src RR1.out (fun x hx => by simp [hx])); have P2 := Lib.hid (hT.src hR2 (fun x hx => by simp [hx]))
  have T11 := Lib.hid (hT.sub (L' := Ry ++ (Rx ++ [])) ((List.sublist_append_right _ _).trans (List.sublist_append_right _ _)))
  clear hR2 hT RR1 T10
  go_wp2_with fail
  refine (sameI_yes bxy bxy P1.out P2.out (by omega) (by omega) rfl).mono ?_
  rintro e w12 ⟨rfl, k12, hw12⟩
  have T12 := Lib.hid (show Two w _ ga bxy _ gb bxy _ w12 from hw12 ▸ T11.out.drewN k12)
  clear hw12 P1 P2 T11
  go_wp2_with fail
  refine (two_bal T12.out (by rw [LBXY.out]; omega)).mono ?_
  rintro e w13 ⟨Rw, aw, pw, rfl, hRw, hT⟩
  rw [LBXY.out] at hRw ⊢
  have RW := Lib.hid hRw; have T13 := Lib.hid hT
  clear hRw hT T12
  obtain ⟨b, hb, hb9⟩ : ∃ c : Nat, within bad 0 9 = c ∧ c ≤ 9 := by
    have := within_bd bad (lo := 0) (hi := 9) (by omega)
    exact ⟨(within bad 0 9).toNat, by omega, by omega⟩
  have HB := Lib.hid hb
  clear hb
  go_wp2_with fail
  refine (within_calls bad 0 9 _ (by omega) (by omega) (by omega)).mono ?_
  rw [HB.out]
  rintro e w' ⟨rfl, rfl⟩
  go_upto_region 9 with fail
  have T14 := Lib.hid (T13.out.join ((Sts.nil w13).add (g := w13.heap.size) rfl #[.int .i64 (5 + (b : Int)), .int .i64 0] 27))
  generalize w13.alloc (.cells #[.int .i64 (5 + (b : Int)), .int .i64 0] 27) = w14 at *
  generalize w13.heap.size = go at *
  obtain ⟨n0, _⟩ := T14.out.cellP (g := go) (cs := #[.int .i64 (5 + (b : Int)), .int .i64 0]) (t := 27) (by simp) 0 (v := .int .i64 (5 + (b : Int))) rfl
  obtain ⟨n1', _⟩ := T14.out.cellP (g := go) (cs := #[.int .i64 (5 + (b : Int)), .int .i64 0]) (t := 27) (by simp) 1 (v := .int .i64 0) rfl
  have T15 := Lib.hid (T14.out.sub (L' := Rw ++ (Ry ++ (Rx ++ []))) (by simp))
  clear T13 T14
  have PX := Lib.hid (T15.out.src RX.out (fun x hx => by simp [hx]))
  have hpn := post_away (bal := bxy) SX.out (q := 5 + (b : Int)) (by rw [LBXY.out]; omega)
  have HPN := Lib.hid hpn
  have HBB := Lib.hid (show ∀ e ∈ X ++ [(5 + (b : Int), 0)], Bd e.1 ∧ Bd e.2 from fun e he => (List.mem_append.1 he).elim (SX.out.bd (by omega) (by omega) e) (fun h => by
    obtain rfl := List.mem_singleton.1 h
    unfold Bd; simp only; omega))
  have HU := Lib.hid (post_uneven (bal := bxy) (n := 5) (M := 1) (es := [(0, 1)]) ⟨by simp, by simp⟩ (by decide) (by decide) (by decide) (by decide) (.inl (by decide)))
  clear hpn
  go_cut [82] (fun v wc => v = .bool false ∧ Hid (Two w (Rw ++ (Ry ++ (Rx ++ []))) ga bxy (0 + 1) gb bxy (0 + 1 + 1) wc))
  case first =>
    have hsa := (((Sts.nil w14).add (g := w14.heap.size) rfl (#[.int .i64 (5 + (b : Int)), .int .i64 0] : Array Value) 27).add (g := w14.heap.size + 1) (by simp) #[] 27).drew
    have hsa1 := Sts.lit (L' := [(w14.heap.size, (#[.int .i64 (5 + (b : Int)), .int .i64 0] : Array Value), 27), (w14.heap.size + 1, #[], 27)]) hsa rfl
    have hsa2 := Sts.lit (L' := [] ++ ([(w14.heap.size + 1, #[], 27)] ++ [(w14.heap.size, (#[.int .i64 (5 + (b : Int)), .int .i64 0] : Array Value), 27)])) (hsa1.perm (List.Perm.swap _ _ _)) rfl
    have HSA := Lib.hid hsa2
    clear hsa hsa1 hsa2
    have HSB := Lib.hid (Sts.lit (L' := [] ++ ([(w14.heap.size, #[], 27)] ++ [(w14.heap.size + 1, (#[.int .i64 (5 + (b : Int)), .int .i64 0] : Array Value), 27)])) ((((Sts.nil w14).add (g := w14.heap.size) rfl #[] 27).add (g := w14.heap.size + 1) (by simp) (#[.int .i64 (5 + (b : Int)), .int .i64 0] : Array Value) 27).drew) rfl)
    have HSC := Lib.hid (((Sts.nil w14).add (g := w14.heap.size) rfl #[] 27).drew)
    have nA : ∀ o, (w14.alloc o).cell? ⟨go, 0, none⟩ = some (.int .i64 (5 + (b : Int))) := fun o => ((bel_alloc (Below.refl _ w14) o).cell (World.block_lt_of_cell? w14 _ n0)).trans n0
    have nB : ∀ o, (w14.alloc o).cell? ⟨go, 1, none⟩ = some (.int .i64 0) := fun o => ((bel_alloc (Below.refl _ w14) o).cell (World.block_lt_of_cell? w14 _ n1')).trans n1'
    have HQ : Hid (∀ W', Two w (Rw ++ (Ry ++ (Rx ++ []))) ga bxy (0 + 1) gb bxy (0 + 1 + 1) W' → Calls Try.prog 10 #[.pointer (some ⟨ga, 0, none⟩), .slice (some ⟨W'.heap.size, 0, none⟩) 1 1] (W'.alloc (.cells #[.int .i64 0, .int .i64 1] 27)) fun e w' => e = .returned (.bool false) ∧ Two w (Rw ++ (Ry ++ (Rx ++ []))) ga bxy (0 + 1) gb bxy (0 + 1 + 1) w') :=
      Lib.hid fun W' h => two_none (es := [(0, 1)]) (h.alloc _) (ents_new (cs := #[.int .i64 0, .int .i64 1]) (t := 27) (m := 1) [(0, 1)] rfl rfl rfl rfl) (by omega) (by rw [LBXY.out]; omega) (within_bds WXY.out (by omega)) (by omega) HU.out
    go_region_law (first
      | (refine step_row_append (by rfl) (.tmp 63) (.tmp 64) 35 (by rfl) [] [(w14.heap.size, (#[.int .i64 (5 + (b : Int)), .int .i64 0] : Array Value), 27)] Try.underlying35 hi hz hs1 hs2 (by rfl) (by omega) (Row.empty _ _ _) HSA.out (by rfl) (by rfl) ((PX.out.alloc _).alloc _).drew (ecs_one _) (by omega) (by omega) ?_; rintro R15 a15 c15 w15 hR15 hS15; simp only [Nat.zero_add, List.nil_append] at hR15 ⊢; have n0' := hS15.old n0; have n1'' := hS15.old n1')
      | (refine step_row_append (by rfl) (.tmp 63) (.tmp 64) 35 (by rfl) [] [(w14.heap.size + 1, (#[.int .i64 (5 + (b : Int)), .int .i64 0] : Array Value), 27)] Try.underlying35 hi hz hs1 hs2 (by rfl) (by omega) (Row.empty _ _ _) HSB.out (by rfl) (by rfl) ((PX.out.alloc _).alloc _).drew (ecs_one _) (by omega) (by omega) ?_; rintro R15 a15 c15 w15 hR15 hS15; simp only [Nat.zero_add, List.nil_append] at hR15 ⊢; have n0' := hS15.old n0; have n1'' := hS15.old n1')
      | (refine step_row_append (by rfl) (.tmp 63) (.tmp 64) 35 (by rfl) [] [] Try.underlying35 hi hz hs1 hs2 (by rfl) (by omega) (Row.empty _ _ _) HSC.out (by rfl) (by rfl) (PX.out.alloc _).drew (ecs_one _) (by omega) (by omega) ?_; rintro R15 a15 c15 w15 hR15 hS15; simp only [Nat.zero_add, List.nil_append] at hR15 ⊢; have n0' := hS15.old n0; have n1'' := hS15.old n1')
      | (refine step_row_append (by rfl) (.tmp 65) (.tmp 67) 35 (by rfl) [] [(w14.heap.size, (#[.int .i64 (5 + (b : Int)), .int .i64 0] : Array Value), 27)] Try.underlying35 hi hz hs1 hs2 (by rfl) (by omega) hR15 hS15 (by rfl) (by rfl) (src_ent (g := w14.heap.size) (cs := #[.int .i64 (5 + (b : Int)), .int .i64 0]) (t := 27) (m := 1) (size := 2) hS15 (by simp) rfl) (ecs_one [(5 + (b : Int), 0)]) (by omega) (by omega) ?_; rintro R16 a16 c16 w16 hR16 hS16)
      | (refine step_row_append (by rfl) (.tmp 65) (.tmp 67) 35 (by rfl) [] [(w14.heap.size + 1, (#[.int .i64 (5 + (b : Int)), .int .i64 0] : Array Value), 27)] Try.underlying35 hi hz hs1 hs2 (by rfl) (by omega) hR15 hS15 (by rfl) (by rfl) (src_ent (g := w14.heap.size + 1) (cs := #[.int .i64 (5 + (b : Int)), .int .i64 0]) (t := 27) (m := 1) (size := 2) hS15 (by simp) rfl) (ecs_one [(5 + (b : Int), 0)]) (by omega) (by omega) ?_; rintro R16 a16 c16 w16 hR16 hS16)
      | (refine step_row_append (by rfl) (.tmp 65) (.tmp 67) 35 (by rfl) [] [] Try.underlying35 hi hz hs1 hs2 (by rfl) (by omega) hR15 (hS15.skip _) (by rfl) (by rfl) (Src.new (size := 2) (m := 1) rfl rfl) (ecs_one [(5 + (b : Int), 0)]) (by omega) (by omega) ?_; rintro R16 a16 c16 w16 hR16 hS16)
      | ((try go_simp); go_at_call 10; (refine (HQ.out _ T17.out).mono ?_); rintro e w18 ⟨rfl, hs18⟩; have T18 := Lib.hid hs18; clear hs18 T17)
      | ((try go_simp); go_at_call 10; (refine (two_none (es := X ++ [(5 + (b : Int), 0)]) (T15.out.below hS16.bel) ⟨(by rw [ecs_app]; exact hR16 : Row R16 27 2 a16 (m1 + 1 + 1) c16 (ecs (X ++ [(5 + (b : Int), 0)]))).srcIn hS16 (fun x hx => by simp [hx]), HBB.out⟩ (by omega) (by rw [LBXY.out]; omega) (within_bds WXY.out (by omega)) (by omega) HPN.out).mono ?_); rintro e w17 ⟨rfl, hs17⟩; have T17 := Lib.hid hs17; clear hs17 hR16 hS16 hR15 hS15)
      | ((try go_simp); go_at_call 12; (refine (two_bal T18.out (by rw [LBXY.out]; omega)).mono ?_); rintro e w19 ⟨R19, a19, p19, rfl, hR19, hT19⟩; rw [LBXY.out] at hR19 ⊢; have P19 := Lib.hid (hT19.src hR19 (fun x hx => by simp [hx])); have P20 := Lib.hid (hT19.src RW.out (fun x hx => by simp [hx])); have T19 := Lib.hid (hT19.sub (List.sublist_append_right _ _)); clear hR19 hT19 T18)
      | ((try go_simp); go_at_call 11; (refine (sameI_yes bxy bxy P19.out P20.out (by omega) (by omega) rfl).mono ?_); rintro e w20 ⟨rfl, k20, hw20⟩))
    all_goals
      go_wp2_with fail
      go_meet
      exact ⟨rfl, Lib.hid (T19.out.drewN k20)⟩
  case rest =>
    obtain ⟨rfl, T21⟩ := hcut
    have T21 := Lib.hid (show Two w _ ga bxy 1 gb bxy 2 wc from T21.out)
    clear T15 n0 n1' PX HPN HBB HU HB
    have PX := Lib.hid (T21.out.src RX.out (fun x hx => by simp [hx])); have PY := Lib.hid (T21.out.src RY.out (fun x hx => by simp [hx]))
    have HSE := Lib.hid ((Sts.nil wc).add (g := wc.heap.size) rfl #[] 27)
    go_wp2_with (first
      | (at_builtin; (refine row_append (by rfl) (.tmp 83) (.tmp 84) 35 rfl [] [] Try.underlying35 hi hz hs1 hs2 rfl (by omega) (Row.empty _ _ _) HSE.out rfl rfl (PX.out.alloc _) (ecs_one _) (by omega) (by omega) ?_); rintro R30 a30 c30 w30 hR30 hS30; simp only [Nat.zero_add, List.nil_append] at hR30 hS30 ⊢)
      | (at_builtin; (refine row_append (by rfl) (.tmp 85) (.tmp 86) 35 rfl [] [] Try.underlying35 hi hz hs1 hs2 rfl (by omega) hR30 hS30 rfl rfl (PY.out.below hS30.bel) (ecs_one _) (by omega) (by omega) ?_); rintro R31 a31 c31 w31 hR31 hS31; simp only [Nat.zero_add, List.nil_append] at hR31 hS31 ⊢))
    have hR31' : Row R31 27 2 a31 (m1 + 1 + (m2 + 1)) c31 (ecs (X ++ Y)) := by rw [ecs_app]; exact hR31
    have RXY := Lib.hid hR31'
    have T31 := Lib.hid (T21.out.join hS31)
    clear hR30 hS30 hR31 hS31 hR31' PX PY HSE T21
    have hN : m1 + 1 + (m2 + 1) ≤ 18 := by omega
    go_loopw [13, 89] (fun v13 v89 wr => ∃ (j : Nat) (Rb : List Ent) (ab : Option Addr) (cb : Nat), j ≤ m1 + 1 + (m2 + 1) ∧ v13 = .slice ab j cb ∧ v89 = .int .i64 j ∧ Hid (Row Rb 27 2 ab j cb (ecs (((X ++ Y).take j).map neg1))) ∧ Hid (Two w (Rb ++ (R31 ++ [] ++ (Rw ++ (Ry ++ (Rx ++ []))))) ga bxy 1 gb bxy 2 wr)) (fun _ v89 _ => m1 + 1 + (m2 + 1) - (intOf v89).toNat)
    case atStart => exact ⟨0, [], none, 0, by omega, rfl, rfl, Lib.hid (Row.nil _ _), T31⟩
    case round =>
      obtain ⟨j, Rb, ab, cb, hj, rfl, rfl, RB, T32⟩ := hrel
      clear T31
      by_cases hlt : j < m1 + 1 + (m2 + 1)
      · have hE : Ents wr a31 (m1 + 1 + (m2 + 1)) (X ++ Y) := ⟨T32.out.src RXY.out (fun x hx => by simp [hx]), SXY.out.bd (by omega) (by omega)⟩
        obtain ⟨ad, e, rfl, hg, hd, d1, d2, hc0, hc1⟩ := hE.at_ hlt
        have hb := SXY.out.amt e (List.mem_of_getElem? hg)
        have hnx : ((X ++ Y).take (j + 1)).map neg1 = ((X ++ Y).take j).map neg1 ++ [(e.1, -e.2)] := by rw [take_next hg, List.map_append]; rfl
        have HNX := Lib.hid hnx
        obtain ⟨e1, e2⟩ := e
        simp only at hc0 hc1 hb
        obtain ⟨b0, b1⟩ := hb
        clear hE hg hd d1 d2 hnx
        obtain ⟨AA, hS32, back⟩ := ((T32.out.alloc (.cells #[.int .i64 e1, .int .i64 e2] 27)).alloc (.cells #[.int .i64 e1, .int .i64 (-e2)] 27)).openR
        have HS32 := Lib.hid hS32; have BACK := Lib.hid back
        clear hS32 back
        go_wp2_with (at_builtin; go_must (refine row_append (by rfl) (.tmp 93) (.tmp 100) 35 rfl AA (R31 ++ [] ++ (Rw ++ (Ry ++ (Rx ++ [])))) Try.underlying35 hi hz hs1 hs2 rfl (by omega) RB.out HS32.out rfl rfl (Src.new (size := 2) (m := 1) rfl (by simp)) (ecs_one [(e1, -e2)]) (by omega) (by omega) ?_); rintro R33 a33 c33 w33 hR33 hS33)
        have hR33' : Row R33 27 2 a33 (j + 1) c33 (ecs (((X ++ Y).take (j + 1)).map neg1)) := by rw [HNX.out, ecs_app]; exact hR33
        have RB' := Lib.hid hR33'; have T33 := Lib.hid (BACK.out _ _ hS33)
        clear hR33 hR33' hS33 HS32 BACK hc0 hc1
        go_wp2_with fail
        go_roundw
        case rel => exact ⟨j + 1, R33, a33, c33, by omega, rfl, by go_num, RB', T33⟩
        case measure => simp [intOf]; omega
      · obtain rfl : j = m1 + 1 + (m2 + 1) := by omega
        have htk : (X ++ Y).take (m1 + 1 + (m2 + 1)) = X ++ Y := List.take_of_length_le (by rw [LXY.out]; omega)
        rw [htk] at RB
        have hpb := parts_post (neg_small SXY.out) (by rw [List.length_map, LXY.out]; omega) LBXY.out (by omega) (by omega) WXY.out (by rw [neg_amts, ZXY.out]; rfl) (by have := NXY.out; simpa using this)
        rw [HBACK.out] at hpb
        have HPB := Lib.hid hpb
        have HEB := Lib.hid (⟨T32.out.src RB.out (fun x hx => by simp [hx]), (neg_small SXY.out).bd (by omega) (by omega)⟩ : Ents wr ab (m1 + 1 + (m2 + 1)) ((X ++ Y).map neg1))
        have T34 := Lib.hid (T32.out.sub (L' := []) (by simp))
        have hmk : ∀ W, (Instr.makeSlice 29 (.int .i64 5) (.int .i64 5)).run Try.prog W = .ok (.slice (some ⟨W.heap.size, 0, none⟩) 5 5) (W.alloc (.cells (is z5).toArray 3)) := fun W => by have := make_ints 5 (by omega) W; rw [ZI_eq] at this; exact this
        have LZ5 := Lib.hid (show z5.length = 5 from rfl)
        generalize z5 = z at *
        clear htk hpb T32 RB
        go_upto_region 17 with fail
        go_region_law (first
          | ((try go_simp); go_at_call 10; (refine (two_yes T34.out.drew ⟨HEB.out.src.drew, HEB.out.bd⟩ (by omega) (by rw [LBXY.out]; omega) (within_bds WXY.out (by omega)) (by omega) HPB.out).mono ?_); rintro e w41 ⟨rfl, hs41⟩; have T41 := Lib.hid (show Two w [] ga z 2 gb bxy 2 w41 from hs41); clear hs41 T34)
          | ((try go_simp); go_at_call 12; (refine (two_bal (T41.out.join ((Sts.nil w41).add (g := w41.heap.size) rfl (is z).toArray 3)) (by rw [LZ5.out]; omega)).mono ?_); rintro e w42 ⟨R42, a42, p42, rfl, hR42, hT42⟩; rw [LZ5.out] at hR42 ⊢; have P50 := Lib.hid (hT42.src hR42 (fun x hx => by simp [hx])); have P51 := Lib.hid (hT42.src (R := [(w41.heap.size, (is z).toArray, 3)]) (made_row w41.heap.size 5 (by omega) z LZ5.out) (fun x hx => by obtain rfl := List.mem_singleton.1 hx; simp)); have T42 := Lib.hid hT42; clear hR42 hT42)
          | ((try go_simp); go_at_call 12; (refine (two_bal T41.out (by rw [LZ5.out]; omega)).mono ?_); rintro e w42 ⟨R42, a42, p42, rfl, hR42, hT42⟩; rw [LZ5.out] at hR42 ⊢; have P60 := Lib.hid (hT42.src hR42 (fun x hx => by simp [hx])); have T42 := Lib.hid hT42; clear hR42 hT42)
          | ((try go_simp); go_at_call 11; (refine (sameI_yes z z P50.out P51.out (by omega) (by omega) rfl).mono ?_); rintro e w43 ⟨rfl, k43, hw43⟩; have T43 := Lib.hid (show Two w _ ga z 2 gb bxy 2 w43 from hw43 ▸ T42.out.drewN k43); clear hw43)
          | ((try go_simp); go_at_call 11; (refine (sameI_yes z z (P60.out.alloc _) (src_arr (m := 5) (by rw [is_length, LZ5.out]) rfl) (by omega) (by omega) rfl).mono ?_); rintro e w43 ⟨rfl, k43, hw43⟩; have T43 := Lib.hid (show Two w _ ga z 2 gb bxy 2 w43 from hw43 ▸ (T42.out.alloc _).drewN k43); clear hw43)
          | ((try go_simp); go_at_call 13; (refine (two_count T43.out).mono ?_); rintro e w' ⟨rfl, rfl⟩)
          | ((try go_simp); go_at_call 13; (refine (two_count2 T43.out).mono ?_); rintro e w' ⟨rfl, rfl⟩)
          | ((try go_simp); go_at_call 3; (refine (sheetRuns_b T43.out.bel).mono ?_); rintro e w45 ⟨rfl, hb45⟩))
        all_goals
          have B45 := Lib.hid hb45
          clear hb45
          go_wp2
          go_ret
          exact ⟨rfl, B45.out⟩
end Go.Proofs.Ytideaimlnipkoaa

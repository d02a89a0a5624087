import Derived.Test.YtideaimlnipkoaaShZero
namespace Go.Proofs.Ytideaimlnipkoaa
open Go.RowKit
set_option linter.unusedVariables false
set_option linter.unusedSimpArgs false
attribute [local go_sem] bmax2 bmin2 bmax_two bmin_two bmax_three bmin_three bmin_four
def mvOf (f t x : Int) : List (Int × Int) := [(f, -x), (t, x)]
def mvAt (fs ts ns : List Int) (j : Nat) : List (Int × Int) := mvOf (within (fs.getD j 0) 0 5) (within (ts.getD j 0) 0 5) (within (ns.getD j 0) 0 1125899906842624)
theorem mvAt_small (fs ts ns : List Int) (j : Nat) : Small 6 1125899906842624 (mvAt fs ts ns j) := by
  have h1 := within_bd (fs.getD j 0) (lo := 0) (hi := 5) (by omega)
  have h2 := within_bd (ts.getD j 0) (lo := 0) (hi := 5) (by omega)
  have h3 := within_bd (ns.getD j 0) (lo := 0) (hi := 1125899906842624) (by omega)
  unfold mvAt mvOf
  refine ⟨fun e he => ?_, fun e he => ?_⟩ <;>
  · simp only [List.mem_cons, List.not_mem_nil, or_false] at he
    rcases he with rfl | rfl <;> simp only <;> omega
theorem mvOf_sum (f t x : Int) : (amts (mvOf f t x)).sum = 0 := by simp [amts, mvOf]; omega
/-- All moves of the numbers p gives. -/
def mvs (fs ts ns : List Int) (p : Nat → Nat) (i : Nat) : List (Int × Int) := (List.range i).flatMap fun j => mvAt fs ts ns (p j)
theorem mvs_next (fs ts ns : List Int) (p : Nat → Nat) (i : Nat) : mvs fs ts ns p (i + 1) = mvs fs ts ns p i ++ mvAt fs ts ns (p i) := by
  unfold mvs; rw [List.range_succ, List.flatMap_append]; simp
theorem mvs_small (fs ts ns : List Int) (p : Nat → Nat) (i : Nat) : Small 6 1125899906842624 (mvs fs ts ns p i) := by
  refine ⟨fun e he => ?_, fun e he => ?_⟩ <;>
  · obtain ⟨j, _, hj⟩ := List.mem_flatMap.1 he
    first | exact (mvAt_small fs ts ns (p j)).acc e hj | exact (mvAt_small fs ts ns (p j)).amt e hj
theorem mvs_sum (fs ts ns : List Int) (p : Nat → Nat) : ∀ i, (amts (mvs fs ts ns p i)).sum = 0 := by
  intro i
  induction i with
  | zero => rfl
  | succ i ih =>
    rw [mvs_next]
    have := mvOf_sum (within (fs.getD (p i) 0) 0 5) (within (ts.getD (p i) 0) 0 5) (within (ns.getD (p i) 0) 0 1125899906842624)
    unfold amts at *
    rw [List.map_append, List.sum_append, ih]
    simpa [mvAt] using this
def z6 : List Int := [0, 0, 0, 0, 0, 0]
/-- What the balances are behind i moves. -/
structure Bal6 (fs ts ns : List Int) (p : Nat → Nat) (i : Nat) (b : List Int) : Prop where
  is_ : b = postL z6 (mvs fs ts ns p i)
  len : b.length = 6
  bd : Within b (2251799813685248 * i)
theorem Bal6.zero (fs ts ns : List Int) (p : Nat → Nat) : Bal6 fs ts ns p 0 z6 := ⟨rfl, rfl, fun x hx => by simp [z6] at hx; omega⟩
theorem Bal6.next {fs ts ns : List Int} {p : Nat → Nat} {i : Nat} {b : List Int} (h : Bal6 fs ts ns p i b) : Bal6 fs ts ns p (i + 1) (postL b (mvAt fs ts ns (p i))) := by
  refine ⟨by rw [mvs_next, postL_app, ← h.is_], by rw [postL_length, h.len], ?_⟩
  have := postL_bd (M := 1125899906842624) (by omega) (mvAt fs ts ns (p i)) b (2251799813685248 * i) (by omega) h.bd (mvAt_small fs ts ns (p i)).amt
  refine this.mono ?_
  show 2251799813685248 * (i : Int) + 1125899906842624 * (((2 : Nat) : Int)) ≤ _
  omega
theorem Bal6.move {fs ts ns : List Int} {p : Nat → Nat} {i : Nat} {b : List Int} (h : Bal6 fs ts ns p i b) (hi : i ≤ 24) {f t x : Int} (e : mvAt fs ts ns (p i) = mvOf f t x) : moveF b f t x = some (postL b (mvAt fs ts ns (p i))) := by
  have hs := mvAt_small fs ts ns (p i)
  rw [e] at hs ⊢
  have h3 := hs.amt (t, x) (by simp [mvOf])
  have h4 := hs.amt (f, -x) (by simp [mvOf])
  have hx : 0 ≤ x := by
    have := congrArg (fun l => (l.getD 1 (0, 0)).2) e
    have h5 := within_bd (ns.getD (p i) 0) (lo := 0) (hi := 1125899906842624) (by omega)
    have h6 : within (ns.getD (p i) 0) 0 1125899906842624 = x := this
    omega
  unfold moveF
  simp only at h3
  rw [if_pos ⟨hx, by omega⟩]
  exact post_small (B := 2251799813685248 * i) (by rw [h.len]; exact hs) (by simp [mvOf]) (by omega) (by omega) h.bd (by show _ + 1125899906842624 * (((2 : Nat) : Int)) ≤ _; omega) (by omega) (mvOf_sum f t x) (by simp [mvOf])
theorem Bal6.bds {fs ts ns : List Int} {p : Nat → Nat} {i : Nat} {b : List Int} (h : Bal6 fs ts ns p i b) (hi : i ≤ 25) : ∀ x ∈ b, Bd x := fun x hx => by have := h.bd x hx; unfold Bd; omega
theorem Two.old {w0 W : World} {L : List Ent} {ga gb ca cb : Nat} {ba bb : List Int} (h : Two w0 L ga ba ca gb bb cb W) {a : Addr} {v : Value} (hv : w0.cell? a = some v) : W.cell? a = some v := (h.bel.cell (World.block_lt_of_cell? w0 a hv)).trans hv
theorem Two.cell {w0 W : World} {L : List Ent} {ga gb ca cb : Nat} {ba bb : List Int} (h : Two w0 L ga ba ca gb bb cb W) {g : Nat} {cs : Array Value} {t : TypeId} (hm : (g, cs, t) ∈ L) (i : Nat) {v : Value} (hv : cs[i]? = some v) : W.cell? ⟨g, i, none⟩ = some v ∧ W.frozen? ⟨g, i, none⟩ = false := by
  obtain ⟨M, hM, hs⟩ := h.sts
  exact ⟨hM.cellM (hs _ hm) i hv, hM.frozenM (hs _ hm) i⟩
set_option maxHeartbeats 16000000 in
set_option maxRecDepth 100000 in
theorem sheetZero_walk (A1 : Option Addr) (n1 c1 : Nat) (fs : List Int) (A2 : Option Addr) (n2 c2 : Nat) (ts : List Int) (A3 : Option Addr) (n3 c3 : Nat) (ns : List Int) (cut : Int) (w : World) (h1 : Ints w A1 n1 fs) (h2 : Ints w A2 n2 ts) (h3 : Ints w A3 n3 ns) (hcut : -9223372036854775808 ≤ cut ∧ cut ≤ 9223372036854775807) :
    Calls Try.prog 4 #[.slice A1 n1 c1, .slice A2 n2 c2, .slice A3 n3 c3, .int .i64 cut] w fun e w' => e = .returned (.bool true) ∧ Below w.heap.size w w' := by
  have N1 := h1.most; have N2 := h2.most; have N3 := h3.most
  obtain ⟨n, hn⟩ : ∃ n, n = min (min (min n1 n2) n3) 25 := ⟨_, rfl⟩
  have tm : min (n1 : Int) (min (n2 : Int) (min (n3 : Int) 25)) = (n : Int) := by omega
  have m1 : n ≤ n1 := by omega
  have m2 : n ≤ n2 := by omega
  have m3 : n ≤ n3 := by omega
  have m4 : n ≤ 25 := by omega
  obtain ⟨k, hk, hkn⟩ : ∃ c : Nat, within cut 0 (n : Int) = c ∧ c ≤ n := by
    have := within_bd cut (lo := 0) (hi := (n : Int)) (by omega)
    exact ⟨(within cut 0 (n : Int)).toNat, by omega, by omega⟩
  have HK := Lib.hid hk
  have H1 := Lib.hid h1; have H2 := Lib.hid h2; have H3 := Lib.hid h3
  clear h1 h2 h3 hn hk
  have HS0 := Lib.hid (Sts.nil w)
  have hmk : ∀ W, (Instr.makeSlice 29 (.int .i64 6) (.int .i64 6)).run Try.prog W = .ok (.slice (some ⟨W.heap.size, 0, none⟩) 6 6) (W.alloc (.cells (ZI 6) 3)) := fun W => make_ints 6 (by omega) W
  rw [ZI_eq] at hmk
  have hz6 : List.replicate 6 (0 : Int) = z6 := rfl
  rw [hz6] at hmk
  have HMK := Lib.hid hmk
  clear hmk hz6
  go_enter Try.func4, Try.ntmps4
  go_wp2_with fail
  refine (new_calls (w0 := w) (L := []) 6 6 (by decide) HS0.out).mono ?_
  rintro e w1 ⟨ga, rfl, hs⟩
  obtain ⟨Ra, aa, pa, hRa, hSa⟩ : ShAt w [] ga z6 0 w1 := hs
  have HRA := Lib.hid hRa; have HSA := Lib.hid hSa
  clear hRa hSa HS0
  go_wp2_with fail
  refine (new_calls (w0 := w) (L := (ga, scells aa z6.length pa 0, 49) :: (Ra ++ [])) 6 6 (by decide) HSA.out).mono ?_
  rintro e w2 ⟨gb, rfl, hs⟩
  have T2 := Lib.hid (show Two w [] ga z6 0 gb z6 0 w2 from Two.swap ⟨Ra, aa, pa, HRA.out, hs⟩)
  clear hs HRA HSA
  go_wp2_with fail
  refine (within_calls cut 0 n _ (by omega) (by omega) (by omega)).mono ?_
  rw [HK.out]
  rintro e w' ⟨rfl, rfl⟩
  have hmk := HMK.out w2
  have T3 := Lib.hid (T2.out.join ((Sts.nil w2).add (g := w2.heap.size) rfl (is z6).toArray 3))
  generalize w2.alloc (.cells (is z6).toArray 3) = w3 at *
  generalize w2.heap.size = gw at *
  clear T2 HMK
  go_wp2_with fail
  clear hmk tm
  have T4 := Lib.hid (show Two w [(gw, (is z6).toArray, 3)] ga z6 0 gb z6 0 w3 from T3.out)
  clear T3
  go_loopw [14] (fun v14 wr => ∃ (i : Nat) (ba bb : List Int), i ≤ n ∧ v14 = .int .i64 i ∧ Hid (Bal6 fs ts ns id i ba) ∧ Hid (Bal6 fs ts ns (fun j => (j + k) % n) i bb) ∧ Hid (Two w [(gw, (is ba).toArray, 3)] ga ba i gb bb i wr)) (fun v14 _ => n - (intOf v14).toNat)
  case atStart => exact ⟨0, z6, z6, by omega, rfl, Lib.hid (Bal6.zero _ _ _ _), Lib.hid (Bal6.zero _ _ _ _), T4⟩
  case round =>
    obtain ⟨i, ba, bb, hi, rfl, HBA, HBB, T5⟩ := hrel
    clear T4
    by_cases hlt : i < n
    · obtain ⟨j, hj⟩ : ∃ j, (i + k) % n = j := ⟨_, rfl⟩
      have hjn : j < n := by rw [← hj]; exact Nat.mod_lt _ (by omega)
      have hji : ((i : Int) + (k : Int)) % (n : Int) = (j : Int) := by rw [← hj]; simp
      obtain ⟨ad1, hA1, p1⟩ := H1.out.at_ i (by omega)
      obtain ⟨ad2, hA2, p2⟩ := H2.out.at_ i (by omega)
      obtain ⟨ad3, hA3, p3⟩ := H3.out.at_ i (by omega)
      obtain ⟨ae1, hB1, r1⟩ := H1.out.at_ j (by omega)
      obtain ⟨ae2, hB2, r2⟩ := H2.out.at_ j (by omega)
      obtain ⟨ae3, hB3, r3⟩ := H3.out.at_ j (by omega)
      obtain rfl : ad1 = ae1 := Option.some.inj (hA1.symm.trans hB1)
      obtain rfl : ad2 = ae2 := Option.some.inj (hA2.symm.trans hB2)
      obtain rfl : ad3 = ae3 := Option.some.inj (hA3.symm.trans hB3)
      clear hB1 hB2 hB3
      obtain ⟨f, hf, hf6⟩ : ∃ c : Nat, within (fs.getD i 0) 0 5 = c ∧ c < 6 := by
        have := within_bd (fs.getD i 0) (lo := 0) (hi := 5) (by omega)
        exact ⟨(within (fs.getD i 0) 0 5).toNat, by omega, by omega⟩
      obtain ⟨t, ht, ht6⟩ : ∃ c : Nat, within (ts.getD i 0) 0 5 = c ∧ c < 6 := by
        have := within_bd (ts.getD i 0) (lo := 0) (hi := 5) (by omega)
        exact ⟨(within (ts.getD i 0) 0 5).toNat, by omega, by omega⟩
      obtain ⟨x, hx, x0, x1⟩ : ∃ x : Int, within (ns.getD i 0) 0 1125899906842624 = x ∧ 0 ≤ x ∧ x ≤ 1125899906842624 := by
        have := within_bd (ns.getD i 0) (lo := 0) (hi := 1125899906842624) (by omega)
        exact ⟨_, rfl, this.1, this.2⟩
      obtain ⟨g, hg, hg6⟩ : ∃ c : Nat, within (fs.getD j 0) 0 5 = c ∧ c < 6 := by
        have := within_bd (fs.getD j 0) (lo := 0) (hi := 5) (by omega)
        exact ⟨(within (fs.getD j 0) 0 5).toNat, by omega, by omega⟩
      obtain ⟨u, hu, hu6⟩ : ∃ c : Nat, within (ts.getD j 0) 0 5 = c ∧ c < 6 := by
        have := within_bd (ts.getD j 0) (lo := 0) (hi := 5) (by omega)
        exact ⟨(within (ts.getD j 0) 0 5).toNat, by omega, by omega⟩
      obtain ⟨y, hy, y0, y1⟩ : ∃ x : Int, within (ns.getD j 0) 0 1125899906842624 = x ∧ 0 ≤ x ∧ x ≤ 1125899906842624 := by
        have := within_bd (ns.getD j 0) (lo := 0) (hi := 1125899906842624) (by omega)
        exact ⟨_, rfl, this.1, this.2⟩
      have HMA := Lib.hid (show mvAt fs ts ns i = mvOf f t x by unfold mvAt; rw [hf, ht, hx])
      have HMB := Lib.hid (show mvAt fs ts ns ((i + k) % n) = mvOf g u y by unfold mvAt; rw [hj, hg, hu, hy])
      have HF := Lib.hid hf; have HT := Lib.hid ht; have HX := Lib.hid hx; have HG := Lib.hid hg; have HU := Lib.hid hu; have HY := Lib.hid hy; have HJI := Lib.hid hji
      clear hf ht hx hg hu hy hj hji
      have R1 := Lib.hid r1; have R2 := Lib.hid r2; have R3 := Lib.hid r3
      generalize fs.getD i 0 = fi at *
      generalize ts.getD i 0 = ti at *
      generalize ns.getD i 0 = ni at *
      generalize fs.getD j 0 = fj at *
      generalize ts.getD j 0 = tj at *
      generalize ns.getD j 0 = nj at *
      obtain rfl := hA1; obtain rfl := hA2; obtain rfl := hA3
      replace p1 := T5.out.old p1
      replace p2 := T5.out.old p2
      replace p3 := T5.out.old p3
      clear r1 r2 r3
      have i0 : (0 : Int) ≤ (i : Int) := by omega
      have i1 : (i : Int) < (n1 : Int) := by omega
      have i2 : (i : Int) < (n2 : Int) := by omega
      have i3 : (i : Int) < (n3 : Int) := by omega
      go_upto_region 10 with fail
      go_quiet ((go_at_call 14; exact Calls.quiet_of_same (within_q _ _ _ _ (by omega) (by omega) (by omega))))
      rw [HF.out, HT.out, HX.out]
      have T6 := Lib.hid (T5.out.drewN nq)
      generalize wr.drewN nq = w4 at *
      clear p1 p2 p3 T5 i1 i2 i3
      have hbl := HBA.out.len
      obtain ⟨c0, d0⟩ := T6.out.cell (g := gw) (cs := (is ba).toArray) (t := 3) (by simp) f (by rw [List.getElem?_toArray]; exact is_get ba (by omega))
      have hb0 := HBA.out.bd.getD (by omega) f
      have HBL := Lib.hid hbl
      have hset := is_set ba f (ba.getD f 0 - x)
      have HSET := Lib.hid hset
      clear hset hbl
      obtain ⟨v, hv⟩ : ∃ v, ba.getD f 0 = v := ⟨_, rfl⟩
      rw [hv] at c0 hb0 HSET
      have HV := Lib.hid hv
      obtain ⟨b0, b1⟩ := hb0
      replace b0 : -56294995342131200 ≤ v := by omega
      replace b1 : v ≤ 56294995342131200 := by omega
      have f0 : (0 : Int) ≤ (f : Int) := by omega
      have f1 : (f : Int) < 6 := by omega
      clear hv
      go_upto_region 12 with fail
      have hs7 := T6.out.set f (.int .i64 (v - x))
      rw [HSET.out] at hs7
      have T7 := Lib.hid hs7
      have hp1 : post1 ba ((f : Int), -x) = ba.set f (v - x) := by unfold post1; rw [Int.toNat_natCast, HV.out, Int.sub_eq_add_neg]
      have hw1 := postL_bd (M := 1125899906842624) (by omega) [((f : Int), -x)] ba (2251799813685248 * i) (by omega) HBA.out.bd (by intro e he; obtain rfl := List.mem_singleton.1 he; simp only; omega)
      rw [show postL ba [((f : Int), -x)] = ba.set f (v - x) from hp1] at hw1
      have hb1l : (ba.set f (v - x)).length = 6 := by rw [List.length_set, HBL.out]
      have hbt := hw1.getD (by show 0 ≤ _ + 1125899906842624 * (((1 : Nat) : Int)); omega) t
      have HP1 := Lib.hid hp1
      generalize w4.setCell ⟨gw, f, none⟩ (.int .i64 (v - x)) = w5 at *
      generalize ba.set f (v - x) = b6 at *
      clear c0 d0 T6 hs7 HSET hp1 hw1 f0 f1
      obtain ⟨c0, d0⟩ := T7.out.cell (g := gw) (cs := (is b6).toArray) (t := 3) (by simp) t (by rw [List.getElem?_toArray]; exact is_get b6 (by omega))
      have hset := is_set b6 t (b6.getD t 0 + x)
      have HSET := Lib.hid hset
      obtain ⟨v2, hv2⟩ : ∃ v, b6.getD t 0 = v := ⟨_, rfl⟩
      rw [hv2] at c0 hbt HSET
      have HV2 := Lib.hid hv2
      obtain ⟨b0', b1'⟩ := hbt
      replace b0' : -57420895248973824 ≤ v2 := by
        have : 2251799813685248 * (i : Int) + 1125899906842624 * (((List.length [((f : Int), -x)] : Nat)) : Int) ≤ 57420895248973824 := by show _ + 1125899906842624 * (((1 : Nat) : Int)) ≤ _; omega
        omega
      replace b1' : v2 ≤ 57420895248973824 := by
        have : 2251799813685248 * (i : Int) + 1125899906842624 * (((List.length [((f : Int), -x)] : Nat)) : Int) ≤ 57420895248973824 := by show _ + 1125899906842624 * (((1 : Nat) : Int)) ≤ _; omega
        omega
      have f0 : (0 : Int) ≤ (t : Int) := by omega
      have f1 : (t : Int) < 6 := by omega
      clear hset hv2 b0 b1 hb1l
      go_upto_region 13 with fail
      have hs8 := T7.out.set t (.int .i64 (v2 + x))
      rw [HSET.out] at hs8
      have hp2 : postL ba (mvAt fs ts ns i) = b6.set t (v2 + x) := by
        rw [HMA.out]
        show post1 (post1 ba ((f : Int), -x)) ((t : Int), x) = _
        rw [HP1.out]
        unfold post1; rw [Int.toNat_natCast, HV2.out]
      rw [← hp2] at hs8
      have T8 := Lib.hid hs8
      generalize w5.setCell ⟨gw, t, none⟩ (.int .i64 (v2 + x)) = w6 at *
      clear c0 d0 T7 hs8 hp2 HSET HV2 HP1 HV b0' b1' f0 f1
      have hji := HJI.out
      have hn0 : 0 < n := by omega
      have k0 : (0 : Int) ≤ (k : Int) := by omega
      clear hji
      go_upto_region 14 with fail
      rw [HJI.out]
      have r1 := T8.out.old R1.out
      have r2 := T8.out.old R2.out
      have r3 := T8.out.old R3.out
      have j0 : (0 : Int) ≤ (j : Int) := by omega
      have j1 : (j : Int) < (n1 : Int) := by omega
      have j2 : (j : Int) < (n2 : Int) := by omega
      have j3 : (j : Int) < (n3 : Int) := by omega
      go_quiet ((go_at_call 14; exact Calls.quiet_of_same (within_q _ _ _ _ (by omega) (by omega) (by omega))))
      rw [HG.out, HU.out, HY.out]
      have T9 := Lib.hid (T8.out.drewN nq)
      generalize w6.drewN nq = w7 at *
      clear r1 r2 r3 T8 j0 j1 j2 j3 k0 HF HT HX HG HU HY HJI R1 R2 R3
      have ea := HBA.out.move (by omega) (f := (f : Int)) (t := (t : Int)) (x := x) HMA.out
      have eb := HBB.out.move (by omega) (f := (g : Int)) (t := (u : Int)) (x := y) HMB.out
      have EA := Lib.hid ea; have EB := Lib.hid eb
      have NA := Lib.hid HBA.out.next; have NB := Lib.hid HBB.out.next
      clear ea eb
      go_wp2_with fail
      refine (T9.out.turn fun L' hs => move_yes (f : Int) (t : Int) x hs (by unfold Bd; omega) (by unfold Bd; omega) (by unfold Bd; omega) (by rw [HBL.out]; omega) (HBA.out.bds (by omega)) (by omega) EA.out).mono ?_
      rintro e w8 ⟨rfl, hs⟩
      have T10 := Lib.hid hs
      clear hs T9
      go_wp2_with fail
      refine (T10.out.turn2 fun L' hs => move_yes (g : Int) (u : Int) y hs (by unfold Bd; omega) (by unfold Bd; omega) (by unfold Bd; omega) (by rw [HBB.out.len]; omega) (HBB.out.bds (by omega)) (by omega) EB.out).mono ?_
      rintro e w9 ⟨rfl, hs⟩
      have T11 := Lib.hid hs
      clear hs T10
      go_wp2_with fail
      go_roundw
      case rel => exact ⟨i + 1, _, _, by omega, by go_num, NA, NB, T11⟩
      case measure => simp [intOf]; omega
    · obtain rfl : i = n := by omega
      have hab : ba = bb := by
        rw [HBA.out.is_, HBB.out.is_]
        refine postL_perm ?_ (fun e he => (mvs_small fs ts ns id i).acc e he)
        exact (rot_perm (fun j => mvAt fs ts ns j) hkn).symm
      have hs0 : ba.sum = 0 := by
        have := postL_sum (mvs fs ts ns id i) z6 (fun e he => (mvs_small fs ts ns id i).acc e he)
        rw [← HBA.out.is_, mvs_sum] at this
        rw [this]; rfl
      have HAB := Lib.hid hab; have HS0 := Lib.hid hs0; have HBL := Lib.hid HBA.out.len
      clear hab hs0
      go_wp2_with fail
      refine (two_bal T5.out (by rw [HBL.out]; omega)).mono ?_
      rintro e w4 ⟨R1, a1, p1, rfl, hR1, hT⟩
      have hsrc := hT.src hR1 (fun x hx => by simp [hx])
      have T6 := Lib.hid (hT.sub (List.sublist_append_right _ _))
      rw [HBL.out] at hsrc
      have P1 := Lib.hid hsrc
      rw [HBL.out]
      clear hR1 hT hsrc T5
      go_wp2_with fail
      go_loop [22, 119] (fun v22 v119 => ∃ (j : Nat), j ≤ 6 ∧ v119 = .int .i64 j ∧ v22 = .int .i64 (ba.take j).sum) (fun _ v119 => 6 - (intOf v119).toNat)
      case atStart => exact ⟨0, by omega, rfl, rfl⟩
      case round =>
        obtain ⟨j, hj, rfl, rfl⟩ := hrel
        have hwt : Within (ba.take j) 56294995342131200 := fun x hx => by have := HBA.out.bd x (List.mem_of_mem_take hx); omega
        have hsb := sum_bd (by omega) (ba.take j) hwt
        have hlj : (ba.take j).length ≤ 6 := by rw [List.length_take, HBL.out]; omega
        by_cases hlt2 : j < 6
        · obtain ⟨ad, rfl, hc⟩ := src_int P1.out hlt2
          have hxb := HBA.out.bd.getD (by omega) j
          have hnx : (ba.take (j + 1)).sum = (ba.take j).sum + ba.getD j 0 := by
            have hx : ba[j]? = some (ba.getD j 0) := by rw [List.getD_eq_getElem?_getD, List.getElem?_eq_getElem (by rw [HBL.out]; exact hlt2)]; rfl
            rw [take_next hx, List.sum_append]; simp
          have HNX := Lib.hid hnx
          generalize (ba.take j).sum = s at *
          generalize ba.getD j 0 = x at *
          have s0 : -337769972052787200 ≤ s := by omega
          have s1 : s ≤ 337769972052787200 := by omega
          have x0 : -56294995342131200 ≤ x := by omega
          have x1 : x ≤ 56294995342131200 := by omega
          clear hnx hsb hxb hwt hlj
          go_wp2
          go_round
          case rel => exact ⟨j + 1, by omega, by go_num, by rw [HNX.out]⟩
          case measure => simp [intOf]; omega
        · obtain rfl : j = 6 := by omega
          have hall : (ba.take 6).sum = 0 := by rw [List.take_of_length_le (by rw [HBL.out]; omega)]; exact HS0.out
          rw [hall]
          clear hall hsb hwt hlj P1
          go_wp2_with fail
          refine (two_bal T6.out (by rw [HBL.out]; omega)).mono ?_
          rintro e w5 ⟨R1, a1, p1, rfl, hR1, hT⟩
          rw [HBL.out] at hR1 ⊢
          have RR1 := Lib.hid hR1; have T7 := Lib.hid hT
          clear hR1 hT T6
          go_wp2_with fail
          refine (two_bal2 T7.out (by rw [HBB.out.len]; omega)).mono ?_
          rintro e w6 ⟨R2, a2, p2, rfl, hR2, hT⟩
          rw [HBB.out.len] at hR2 ⊢
          have hsrc1 := hT.src RR1.out (fun x hx => by simp [hx])
          have hsrc2 := hT.src hR2 (fun x hx => by simp [hx])
          have P1 := Lib.hid hsrc1; have P2 := Lib.hid hsrc2; have T8 := Lib.hid (hT.sub (L' := [(gw, (is ba).toArray, 3)]) (by simp))
          clear hR2 hT hsrc1 hsrc2 RR1 T7
          go_wp2_with fail
          refine (sameI_yes ba bb P1.out P2.out (by omega) (by omega) HAB.out).mono ?_
          rintro e w7 ⟨rfl, k7, hw7⟩
          have T9 := Lib.hid (show Two w _ ga ba _ gb bb _ w7 from hw7 ▸ T8.out.drewN k7)
          clear hw7 P1 P2 T8
          go_wp2_with fail
          refine (two_bal T9.out (by rw [HBL.out]; omega)).mono ?_
          rintro e w8 ⟨R3, a3, p3, rfl, hR3, hT⟩
          rw [HBL.out] at hR3 ⊢
          have hsrc1 := hT.src hR3 (fun x hx => by simp [hx])
          have hsrc2 := hT.src (R := [(gw, (is ba).toArray, 3)]) (made_row gw 6 (by omega) ba HBL.out) (fun x hx => by obtain rfl := List.mem_singleton.1 hx; simp)
          have P1 := Lib.hid hsrc1; have P2 := Lib.hid hsrc2; have T10 := Lib.hid (hT.sub (List.sublist_append_right _ _))
          clear hR3 hT hsrc1 hsrc2 T9
          go_wp2_with fail
          refine (sameI_yes ba ba P1.out P2.out (by omega) (by omega) rfl).mono ?_
          rintro e w9 ⟨rfl, k9, hw9⟩
          have T11 := Lib.hid (show Two w _ ga ba _ gb bb _ w9 from hw9 ▸ T10.out.drewN k9)
          clear hw9 P1 P2 T10
          go_wp2_with fail
          refine (two_count T11.out).mono ?_
          rintro e w' ⟨rfl, rfl⟩
          have e1 : (i == i) = true := by simp
          have e2 : ((i : Int) == (i : Int)) = true := by simp
          go_wp2_with fail
          refine (sheetRuns_b T11.out.bel).mono ?_
          rintro e w10 ⟨rfl, hb⟩
          have B := Lib.hid hb
          clear hb
          go_wp2
          go_ret
          exact ⟨rfl, B.out⟩
end Go.Proofs.Ytideaimlnipkoaa

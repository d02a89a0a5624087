import Derived.Test.YtllbpjaiplnbnaaLossW
namespace Go.Proofs.Ytllbpjaiplnbnaa
open Go.RowKit
set_option linter.unusedVariables false
set_option linter.unusedSimpArgs false
attribute [local go_sem] bmax2 bmin2 bmax_two bmin_two bmax_three bmin_three
/-- Of what was there only the notes of ps may have turned, and no block has another size. -/
structure Keeps (ps : List (Option (Nat × Nat))) (W W' : World) : Prop where
  os : W'.os = W.os
  tape : W'.tape = W.tape
  output : W'.output = W.output
  size : W.heap.size ≤ W'.heap.size
  block : ∀ b, b < W.heap.size → (∀ (k : Nat) (a : Nat × Nat), ps[k]? = some (some a) → a.1 ≠ b) → W'.heap[b]? = W.heap[b]?
  cells : ∀ g cs t, Blk W g cs t → ∃ cs', Blk W' g cs' t ∧ cs'.size = cs.size
theorem Keeps.of_below {ps : List (Option (Nat × Nat))} {W W' : World} (h : Below W.heap.size W W') : Keeps ps W W' := ⟨h.os, h.tape, h.output, h.size, fun b hb _ => h.block b hb, fun g cs t hg => ⟨cs, hg.below h, rfl⟩⟩
theorem Keeps.trans {ps : List (Option (Nat × Nat))} {W W' W'' : World} (h : Keeps ps W W') (k : Keeps ps W' W'') : Keeps ps W W'' :=
  ⟨k.os.trans h.os, k.tape.trans h.tape, k.output.trans h.output, Nat.le_trans h.size k.size, fun b hb hn => (k.block b (Nat.lt_of_lt_of_le hb h.size) hn).trans (h.block b hb hn), fun g cs t hg => by
    obtain ⟨c1, h1, e1⟩ := h.cells g cs t hg
    obtain ⟨c2, h2, e2⟩ := k.cells g c1 t h1
    exact ⟨c2, h2, e2.trans e1⟩⟩
theorem Keeps.below {ps : List (Option (Nat × Nat))} {W W' W'' : World} (h : Keeps ps W W') (k : Below W'.heap.size W' W'') : Keeps ps W W'' := h.trans (Keeps.of_below k)
/-- The list of pointers lies in no note's block. -/
def Aside (A : Option Addr) (ps : List (Option (Nat × Nat))) : Prop := ∀ (k : Nat) (a : Nat × Nat) (ad : Addr), ps[k]? = some (some a) → A = some ad → a.1 ≠ ad.block
theorem Src.keeps {ps : List (Option (Nat × Nat))} {W W' : World} {A : Option Addr} {n size : Nat} {xs : List Value} (h : Src W A n size xs) (k : Keeps ps W W') (ha : Aside A ps) : Src W' A n size xs :=
  ⟨h.1, fun hn => by
    obtain ⟨ad, rfl, hc⟩ := h.2 hn
    refine ⟨ad, rfl, fun j u hu => ?_⟩
    have h1 := hc j u hu
    have h2 : (ad.add j).block = ad.block := block_of_add ad j
    have h3 := World.block_lt_of_cell? W _ h1
    rw [World.cell?_of_block (k.block _ h3 (fun i a hi => by rw [h2]; exact ha i a ad hi rfl))]
    exact h1⟩
theorem setIf_get (cs : Array Value) (i j : Nat) (u v : Value) (h : cs[j]? = some v) (hne : i ≠ j) : (cs.setIfInBounds i u)[j]? = some v := by
  rw [Array.getElem?_setIfInBounds_ne hne]; exact h
theorem setIf_self (cs : Array Value) (i : Nat) (u v : Value) (h : cs[i]? = some v) : (cs.setIfInBounds i u)[i]? = some u := by
  have := (Array.getElem?_eq_some_iff.1 h).1
  rw [Array.getElem?_setIfInBounds_self_of_lt this]
/-- A note with another Down. -/
def Nt.down (z : Nt) (d : Int) : Nt := ⟨z.r, z.og, z.rt, z.i, z.j, z.sh, d⟩
theorem PMem.turn {W W' : World} {ps : List (Option (Nat × Nat))} {qs : List (Option Nt)} {k g o : Nat} {z : Nt} {cs : Array Value} {t : TypeId} {d : Int} (h : PMem W ps qs) (hq : qs[k]? = some (some z)) (hp : ps[k]? = some (some (g, o))) (hg : Blk W g cs t)
    (hb : Blk W' g (cs.setIfInBounds (o + 6) (.int .i64 d)) t) (hB : But g W W') (hL : Lossy (z.down d)) : PMem W' ps (qs.set k (some (z.down d))) ∧ Keeps ps W W' := by
  have hkl : k < qs.length := (List.getElem?_eq_some_iff.1 hq).1
  refine ⟨⟨by simp [h.len], fun j y hy => ?_, fun j hj => ?_, h.apart, fun y hy => ?_⟩, ⟨hB.os, hB.tape, hB.output, hB.size, fun b hb' hn => hB.block b hb' (fun e => hn k (g, o) hp e.symm), fun g' cs' t' hg' => ?_⟩⟩
  · by_cases hjk : j = k
    · subst hjk
      rw [List.getElem?_set_self hkl] at hy
      obtain rfl := Option.some.inj (Option.some.inj hy)
      obtain ⟨g1, o1, hp1, cs1, t1, hb1, hA⟩ := h.at_ j z hq
      rw [hp] at hp1
      obtain ⟨rfl, rfl⟩ := Prod.mk.inj (Option.some.inj (Option.some.inj hp1))
      have e1 := hg.symm.trans hb1
      simp only [Option.some.injEq, Obj.cells.injEq] at e1
      obtain ⟨rfl, rfl, _⟩ := e1
      refine ⟨g, o, hp, _, t, hb, ⟨setIf_get _ _ _ _ _ hA.c0 (by omega), setIf_get _ _ _ _ _ hA.c1 (by omega), setIf_get _ _ _ _ _ hA.c2 (by omega), setIf_get _ _ _ _ _ hA.c3 (by omega), setIf_get _ _ _ _ _ hA.c4 (by omega), setIf_get _ _ _ _ _ hA.c5 (by omega), setIf_self _ _ _ _ hA.c6⟩⟩
    · rw [List.getElem?_set_ne (Ne.symm hjk)] at hy
      obtain ⟨g1, o1, hp1, cs1, t1, hb1, hA⟩ := h.at_ j y hy
      by_cases hgg : g1 = g
      · subst hgg
        have e1 := hg.symm.trans hb1
        simp only [Option.some.injEq, Obj.cells.injEq] at e1
        obtain ⟨rfl, rfl, _⟩ := e1
        have hap := h.apart j k (g1, o1) (g1, o) hp1 hp hjk
        simp only at hap
        exact ⟨g1, o1, hp1, _, t, hb, ⟨setIf_get _ _ _ _ _ hA.c0 (by omega), setIf_get _ _ _ _ _ hA.c1 (by omega), setIf_get _ _ _ _ _ hA.c2 (by omega), setIf_get _ _ _ _ _ hA.c3 (by omega), setIf_get _ _ _ _ _ hA.c4 (by omega), setIf_get _ _ _ _ _ hA.c5 (by omega), setIf_get _ _ _ _ _ hA.c6 (by omega)⟩⟩
      · exact ⟨g1, o1, hp1, cs1, t1, hb1.but hB hgg, hA⟩
  · by_cases hjk : j = k
    · subst hjk
      rw [List.getElem?_set_self hkl] at hj
      cases hj
    · rw [List.getElem?_set_ne (Ne.symm hjk)] at hj
      exact h.nil j hj
  · rcases List.mem_or_eq_of_mem_set hy with hy | hy
    · exact h.lossy y hy
    · obtain rfl := Option.some.inj hy
      exact hL
  · by_cases hgg : g' = g
    · subst hgg
      have e1 := hg.symm.trans hg'
      simp only [Option.some.injEq, Obj.cells.injEq] at e1
      obtain ⟨rfl, rfl, _⟩ := e1
      exact ⟨_, hb, by simp⟩
    · exact ⟨cs', hg'.but hB hgg, rfl⟩
/-- What the lists say of the notes. -/
def st (qs : List (Option Nt)) : List Int × List Int := (qs.map ob, qs.map od)
theorem Lossy.fair {z : Nt} (h : Lossy z) : Fair z.og z.i z.j z.sh z.dn := by
  obtain ⟨a0, a1, a2, a3, a4, a5, a6, a7⟩ := h
  have a8 : z.bal = z.og - (z.i - z.j) - z.dn := rfl
  exact ⟨by omega, by omega, by omega, by omega, by omega, by omega, by omega, by omega, by omega⟩
theorem Lossy.le {z : Nt} (h : Lossy z) : z.dn ≤ 1099511627776 := by
  obtain ⟨a0, a1, a2, a3, a4, a5, a6, a7⟩ := h
  have a8 : z.bal = z.og - (z.i - z.j) - z.dn := rfl
  omega
theorem Lossy.down {z : Nt} (h : Lossy z) {d : Int} (h0 : 0 ≤ d) (h1 : d ≤ z.dn + z.bal) : Lossy (z.down d) := by
  obtain ⟨a0, a1, a2, a3, a4, a5, a6, a7⟩ := h
  have a8 : z.bal = z.og - (z.i - z.j) - z.dn := rfl
  have a9 : (z.down d).bal = z.og - (z.i - z.j) - d := rfl
  exact ⟨a0, a1, a2, a3, by omega, a5, a6, h0⟩
theorem sum_od : ∀ (qs : List (Option Nt)), (∀ z, some z ∈ qs → Lossy z) → 0 ≤ (qs.map od).sum ∧ (qs.map od).sum ≤ 1099511627776 * qs.length := by
  intro qs
  induction qs with
  | nil => intro _; simp
  | cons q qs ih =>
    intro h
    obtain ⟨h0, h1⟩ := ih (fun z hz => h z (List.mem_cons_of_mem _ hz))
    rw [List.map_cons, List.sum_cons, List.length_cons]
    cases q with
    | none => simp only [od]; omega
    | some z =>
      have h2 := (h z (by simp)).dn0
      have h3 := (h z (by simp)).le
      simp only [od]; omega
theorem st_set {qs : List (Option Nt)} {k : Nat} {z : Nt} (hq : qs[k]? = some (some z)) (v : Int) : st (qs.set k (some (z.down (z.dn + v)))) = mv k v (st qs) := by
  unfold st mv
  simp only [List.map_set, getD_map ob qs k _ hq, getD_map od qs k _ hq]
  congr 2
  show ((z.down (z.dn + v)).bal) = z.bal - v
  have a8 : z.bal = z.og - (z.i - z.j) - z.dn := rfl
  have a9 : (z.down (z.dn + v)).bal = z.og - (z.i - z.j) - (z.dn + v) := rfl
  omega
/-- Nothing but Downs differs. -/
def Same0 (qs qs' : List (Option Nt)) : Prop := qs'.length = qs.length ∧ ∀ k : Nat, (qs[k]? = some none → qs'[k]? = some none) ∧ ∀ z, qs[k]? = some (some z) → ∃ d, qs'[k]? = some (some (z.down d))
theorem Same0.refl (qs : List (Option Nt)) : Same0 qs qs := ⟨rfl, fun k => ⟨id, fun z h => ⟨z.dn, h⟩⟩⟩
theorem Same0.set {qs qs' : List (Option Nt)} (h : Same0 qs qs') {k : Nat} {z : Nt} (hq : qs'[k]? = some (some z)) (d : Int) : Same0 qs (qs'.set k (some (z.down d))) := by
  have hkl : k < qs'.length := (List.getElem?_eq_some_iff.1 hq).1
  refine ⟨by simp [h.1], fun j => ⟨fun hj => ?_, fun y hy => ?_⟩⟩
  · have h1 := (h.2 j).1 hj
    by_cases hjk : j = k
    · subst hjk; rw [hq] at h1; cases h1
    · rw [List.getElem?_set_ne (Ne.symm hjk)]; exact h1
  · obtain ⟨d', hd⟩ := (h.2 j).2 y hy
    by_cases hjk : j = k
    · subst hjk
      rw [hq] at hd
      obtain rfl := Option.some.inj (Option.some.inj hd)
      exact ⟨d, by rw [List.getElem?_set_self hkl]; rfl⟩
    · exact ⟨d', by rw [List.getElem?_set_ne (Ne.symm hjk)]; exact hd⟩
theorem Same0.orr {qs qs' : List (Option Nt)} (h : Same0 qs qs') : qs'.map orr = qs.map orr := by
  apply List.ext_getElem?
  intro k
  rw [List.getElem?_map, List.getElem?_map]
  cases hq : qs[k]? with
  | none =>
    have : qs'[k]? = none := by rw [List.getElem?_eq_none_iff] at hq ⊢; rw [h.1]; exact hq
    rw [this]
  | some q =>
    cases q with
    | none => rw [(h.2 k).1 hq]
    | some z => obtain ⟨d, hd⟩ := (h.2 k).2 z hq; rw [hd]; rfl
set_option maxHeartbeats 4000000 in
set_option maxRecDepth 100000 in
theorem allot_calls (t : Int) (A : Option Addr) (n cap : Nat) (ps : List (Option (Nat × Nat))) (qs : List (Option Nt)) (w : World) (hP : Src w A n 1 (ps.map ptrV)) (hM : PMem w ps qs) (hA : Aside A ps) (hn : n ≤ 64) (ht0 : -4611686018427387904 ≤ t) (ht1 : t ≤ 4611686018427387904) :
    Calls Try.prog 22 #[.int .i64 t, .slice A n cap] w fun e w' => ∃ qs', e = .returned (.int .i64 (qs'.map od).sum) ∧ Shared (max t 0) (qs.map orr) n (st qs) (st qs') ∧ PMem w' ps qs' ∧ Same0 qs qs' ∧ Keeps ps w w' := by
  obtain ⟨T, hT⟩ : ∃ T, T = max t 0 := ⟨_, rfl⟩
  have T0 : 0 ≤ T := by omega
  have T1 : T ≤ 4611686018427387904 := by omega
  rw [← hT]
  have HTT := Lib.hid hT
  have hl : qs.length = n := by have := hP.1; rw [List.length_map, hM.len] at this; omega
  have HP := Lib.hid hP
  clear hP
  have HM := Lib.hid hM
  clear hM
  have HA := Lib.hid hA
  clear hA
  have HL := Lib.hid hl
  clear hl
  go_enter Try.func22, Try.ntmps22
  go_upto_region 2 with fail
  skip
  have eT : (max t 0) = T := HTT.out.symm
  simp only [eT]
  clear eT hT
  go_wp2_with fail
  refine (downs_calls A n cap ps qs w HP.out HM.out hn).mono ?_
  rintro e w1 ⟨rfl, hb1⟩
  have HP1 := Lib.hid (HP.out.below hb1)
  have HM1 := Lib.hid (HM.out.below hb1)
  have HK1 := Lib.hid (Keeps.of_below (ps := ps) hb1)
  clear hb1
  go_wp2_with fail
  have hd := sum_od qs HM.out.lossy
  rw [HL.out] at hd
  obtain ⟨hd0, hd1⟩ := hd
  generalize hD0 : (qs.map od).sum = D0' at *
  have HD0 := Lib.hid hD0
  clear hD0
  go_loopw [5] (fun v5 wr => ∃ (q1 : List (Option Nt)) (D : Int), v5 = .int .i64 D ∧ 0 ≤ D ∧ D ≤ 70368744177664 ∧ Hid (D = (q1.map od).sum) ∧ Hid (PMem wr ps q1) ∧ Hid (Src wr A n 1 (ps.map ptrV)) ∧ Hid (Keeps ps w wr) ∧ Hid (Same0 qs q1) ∧ Hid (∀ s b, Up T (qs.map orr) n (st q1) s b → Up T (qs.map orr) n (st qs) s b)) (fun v5 _ => (T - intOf v5).toNat)
  case atStart => exact ⟨qs, D0', rfl, by omega, by omega, Lib.hid HD0.out.symm, HM1, HP1, HK1, Lib.hid (Same0.refl qs), fun s b h => h⟩
  case round =>
    obtain ⟨q1, D, rfl, D0, D1, HD, HMr, HPr, HKr, HS, HU⟩ := hrel
    have hl1 : q1.length = n := HS.out.1.trans HL.out
    have HL1 := Lib.hid hl1
    clear hl1
    by_cases q5 : D < T
    · skip
      go_wp2_with fail
      refine (junior_calls A n cap ps q1 wr HPr.out HMr.out hn).mono ?_
      rintro e w3 ⟨rfl, hb⟩
      have HP3 := Lib.hid (HPr.out.below hb)
      have HM3 := Lib.hid (HMr.out.below hb)
      have HK3 := Lib.hid (HKr.out.below hb)
      clear hb
      rw [HS.out.orr]
      cases hj : jun (qs.map orr) (q1.map ob) n with
      | none =>
        simp only [sel, Option.bind_none, ptrV]
        have HJ := Lib.hid hj
        clear hj
        go_wp2_with fail
        go_ret
        exact ⟨q1, congrArg (fun x => Ending.returned (Value.int .i64 x)) HD.out, Or.inl (HU.out _ _ (Up.dry (st q1) (by show (q1.map od).sum < T; rw [← HD.out]; exact q5) HJ.out)), HM3.out, HS.out, HK3.out⟩
      | some k =>
        obtain ⟨k1, k2, _⟩ := jun_some _ _ _ _ hj
        have HJ := Lib.hid hj
        clear hj
        obtain ⟨x, hq⟩ : ∃ x, q1[k]? = some x := ⟨_, List.getElem?_eq_getElem (by rw [HL1.out]; exact k1)⟩
        rw [getD_map ob q1 k x hq] at k2
        cases x with
        | none => simp [ob] at k2
        | some z =>
          simp only [ob] at k2
          have hz := HM3.out.lossy z (List.mem_of_getElem? hq)
          obtain ⟨g, o, hp, cs, t', hb, hA⟩ := HM3.out.at_ k z hq
          have zb := hz.bal
          have zd := hz.dn0
          have zl := hz.le
          have HZ := Lib.hid hz
          clear hz
          have hsel : ptrV (sel ps (some k)) = .pointer (some ⟨g, o, none⟩) := by simp [sel, hp, ptrV]
          rw [hsel]
          have HHQ := Lib.hid hq
          clear hq
          have HHP := Lib.hid hp
          clear hp
          have HHB := Lib.hid hb
          clear hb
          have HHA := Lib.hid hA
          clear hA
          clear hsel
          go_wp2_with fail
          refine (write_calls g o cs t' z.r z.og z.rt z.i z.j z.sh z.dn (T - D) w3 HHB.out HHA.out HZ.out.fair (by omega) (by omega)).mono ?_
          rintro e w4 ⟨rfl, hb4, hB4⟩
          obtain ⟨v, hv⟩ : ∃ v, v = min z.bal (T - D) := ⟨_, rfl⟩
          have v0 : 1 ≤ v := by omega
          have v1 : v ≤ T - D := by omega
          have v2 : v ≤ z.bal := by omega
          have ev : wi (T - D) (z.og - (z.i - z.j) - z.dn) = v := by (have e : z.og - (z.i - z.j) - z.dn = z.bal := rfl); rw [e, hv]; unfold wi; omega
          simp only [ev] at hb4 ⊢
          clear ev
          obtain ⟨hM4, hK4⟩ := HM3.out.turn HHQ.out HHP.out HHB.out hb4 hB4 (HZ.out.down (by omega) (by omega))
          clear hb4 hB4
          have hP4 := HP3.out.keeps hK4 HA.out
          have hK4' := HK3.out.trans hK4
          have hS4 := HS.out.set HHQ.out (z.dn + v)
          have hsum : ((q1.set k (some (z.down (z.dn + v)))).map od).sum = D + v := by
            have h1 := congrArg (fun s => s.2.sum) (st_set HHQ.out v)
            have h2 : (mv k v (st q1)).2.sum = (st q1).2.sum + v := mv_sum (by show k < (q1.map od).length; rw [List.length_map, HL1.out]; exact k1)
            exact h1.trans (h2.trans (by rw [HD.out]; rfl))
          have hU4 : ∀ s b, Up T (qs.map orr) n (st (q1.set k (some (z.down (z.dn + v))))) s b → Up T (qs.map orr) n (st qs) s b := by
            intro s b h
            rw [st_set HHQ.out v] at h
            have am : v = min ((st q1).1.getD k 0) (T - (st q1).2.sum) := by show v = min ((q1.map ob).getD k 0) (T - (q1.map od).sum); rw [getD_map ob q1 k _ HHQ.out, ← HD.out, hv]; rfl
            rw [am] at h
            exact HU.out _ _ (Up.step _ _ _ _ (by show (q1.map od).sum < T; rw [← HD.out]; exact q5) HJ.out h)
          generalize q1.set k (some (z.down (z.dn + v))) = q2 at *
          have XhM4 := Lib.hid hM4
          clear hM4
          have XhP4 := Lib.hid hP4
          clear hP4
          have XhK4' := Lib.hid hK4'
          clear hK4'
          have XhS4 := Lib.hid hS4
          clear hS4
          have Xhsum := Lib.hid hsum
          clear hsum
          have XhU4 := Lib.hid hU4
          clear hU4
          have hD2 := sum_od q2 XhM4.out.lossy
          rw [Xhsum.out, XhS4.out.1, HL.out] at hD2
          obtain ⟨hD20, hD21⟩ := hD2
          have hD22 : D + v ≤ 70368744177664 := by omega
          clear hD21
          clear hK4 hv
          go_wp2_with fail
          refine (downs_calls A n cap ps q2 w4 XhP4.out XhM4.out hn).mono ?_
          rintro e w5 ⟨rfl, hb5⟩
          rw [Xhsum.out]
          have XM5 := Lib.hid (XhM4.out.below hb5)
          have XP5 := Lib.hid (XhP4.out.below hb5)
          have XK5 := Lib.hid (XhK4'.out.below hb5)
          clear hb5
          go_wp2_with fail
          go_roundw
          case rel => exact ⟨q2, D + v, rfl, by omega, by omega, Lib.hid Xhsum.out.symm, XM5, XP5, XK5, XhS4, XhU4⟩
          case measure => simp [intOf]; omega
    · skip
      have HQ := Lib.hid (HU.out _ _ (Up.stop (st q1) (by show T ≤ (q1.map od).sum; rw [← HD.out]; omega)))
      clear HU
      go_wp2_with fail
      refine (downs_calls A n cap ps q1 wr HPr.out HMr.out hn).mono ?_
      rintro e w3 ⟨rfl, hb⟩
      rw [← HD.out]
      have HP3 := Lib.hid (HPr.out.below hb)
      have HM3 := Lib.hid (HMr.out.below hb)
      have HK3 := Lib.hid (HKr.out.below hb)
      clear hb HPr HMr HKr
      clear q5
      obtain ⟨qm, hqm⟩ : ∃ q, q = q1 := ⟨_, rfl⟩
      subst hqm
      obtain ⟨Dm, hDm⟩ : ∃ q, q = D := ⟨_, rfl⟩
      subst hDm
      have HDm := HD; have HSm := HS; have Dm0 := D0; have Dm1 := D1; clear HD HS D0 D1 HL1
      go_wp2_with fail
      go_loopw [7] (fun v5 wr => ∃ (q1 : List (Option Nt)) (D : Int), v5 = .int .i64 D ∧ 0 ≤ D ∧ D ≤ 70368744177664 ∧ Hid (D = (q1.map od).sum) ∧ Hid (PMem wr ps q1) ∧ Hid (Src wr A n 1 (ps.map ptrV)) ∧ Hid (Keeps ps w wr) ∧ Hid (Same0 qs q1) ∧ Hid (∀ s b, Dn T (qs.map orr) n (st q1) s b → Dn T (qs.map orr) n (st qm) s b)) (fun v5 _ => (intOf v5 - T).toNat)
      case atStart => exact ⟨qm, Dm, rfl, Dm0, Dm1, HDm, HM3, HP3, HK3, HSm, fun s b h => h⟩
      case round =>
        obtain ⟨q1, D, rfl, D0, D1, HD, HMr, HPr, HKr, HS, HU⟩ := hrel
        have hl1 : q1.length = n := HS.out.1.trans HL.out
        have HL1 := Lib.hid hl1
        clear hl1
        by_cases q5 : T < D
        · skip
          go_wp2_with fail
          refine (senior_calls A n cap ps q1 wr HPr.out HMr.out hn).mono ?_
          rintro e w3 ⟨rfl, hb⟩
          have HP3 := Lib.hid (HPr.out.below hb)
          have HM3 := Lib.hid (HMr.out.below hb)
          have HK3 := Lib.hid (HKr.out.below hb)
          clear hb
          rw [HS.out.orr]
          cases hj : sen (qs.map orr) (q1.map od) n with
          | none =>
            simp only [sel, Option.bind_none, ptrV]
            have HJ := Lib.hid hj
            clear hj
            go_wp2_with fail
            go_ret
            exact ⟨q1, congrArg (fun x => Ending.returned (Value.int .i64 x)) HD.out, Or.inr ⟨_, _, HQ.out, HU.out _ _ (Dn.dry (st q1) (by show T < (q1.map od).sum; rw [← HD.out]; exact q5) HJ.out)⟩, HM3.out, HS.out, HK3.out⟩
          | some k =>
            obtain ⟨k1, k2, _⟩ := sen_some _ _ _ _ hj
            have HJ := Lib.hid hj
            clear hj
            obtain ⟨x, hq⟩ : ∃ x, q1[k]? = some x := ⟨_, List.getElem?_eq_getElem (by rw [HL1.out]; exact k1)⟩
            rw [getD_map od q1 k x hq] at k2
            cases x with
            | none => simp [od] at k2
            | some z =>
              simp only [od] at k2
              have hz := HM3.out.lossy z (List.mem_of_getElem? hq)
              obtain ⟨g, o, hp, cs, t', hb, hA⟩ := HM3.out.at_ k z hq
              have zb := hz.bal
              have zd := hz.dn0
              have zl := hz.le
              have HZ := Lib.hid hz
              clear hz
              have hsel : ptrV (sel ps (some k)) = .pointer (some ⟨g, o, none⟩) := by simp [sel, hp, ptrV]
              rw [hsel]
              have HHQ := Lib.hid hq
              clear hq
              have HHP := Lib.hid hp
              clear hp
              have HHB := Lib.hid hb
              clear hb
              have HHA := Lib.hid hA
              clear hA
              clear hsel
              go_wp2_with fail
              refine (restore_calls g o cs t' z.r z.og z.rt z.i z.j z.sh z.dn (D - T) w3 HHB.out HHA.out HZ.out.fair (by omega) (by omega)).mono ?_
              rintro e w4 ⟨rfl, hb4, hB4⟩
              obtain ⟨v, hv⟩ : ∃ v, v = min z.dn (D - T) := ⟨_, rfl⟩
              have v0 : 1 ≤ v := by omega
              have v1 : v ≤ D - T := by omega
              have v2 : v ≤ z.dn := by omega
              have ev : wi (D - T) z.dn = v := by rw [hv]; unfold wi; omega
              simp only [ev] at hb4 ⊢
              clear ev
              rw [Int.sub_eq_add_neg] at hb4
              obtain ⟨hM4, hK4⟩ := HM3.out.turn HHQ.out HHP.out HHB.out hb4 hB4 (HZ.out.down (by omega) (by omega))
              clear hb4 hB4
              have hP4 := HP3.out.keeps hK4 HA.out
              have hK4' := HK3.out.trans hK4
              have hS4 := HS.out.set HHQ.out (z.dn + (-v))
              have hsum : ((q1.set k (some (z.down (z.dn + (-v))))).map od).sum = D + (-v) := by
                have h1 := congrArg (fun s => s.2.sum) (st_set HHQ.out (-v))
                have h2 : (mv k (-v) (st q1)).2.sum = (st q1).2.sum + (-v) := mv_sum (by show k < (q1.map od).length; rw [List.length_map, HL1.out]; exact k1)
                exact h1.trans (h2.trans (by rw [HD.out]; rfl))
              have hU4 : ∀ s b, Dn T (qs.map orr) n (st (q1.set k (some (z.down (z.dn + (-v)))))) s b → Dn T (qs.map orr) n (st qm) s b := by
                intro s b h
                rw [st_set HHQ.out (-v)] at h
                have am : (-v) = -(min ((st q1).2.getD k 0) ((st q1).2.sum - T)) := by show -v = -(min ((q1.map od).getD k 0) ((q1.map od).sum - T)); rw [getD_map od q1 k _ HHQ.out, ← HD.out, hv]; rfl
                rw [am] at h
                exact HU.out _ _ (Dn.step _ _ _ _ (by show T < (q1.map od).sum; rw [← HD.out]; exact q5) HJ.out h)
              generalize q1.set k (some (z.down (z.dn + (-v)))) = q2 at *
              have XhM4 := Lib.hid hM4
              clear hM4
              have XhP4 := Lib.hid hP4
              clear hP4
              have XhK4' := Lib.hid hK4'
              clear hK4'
              have XhS4 := Lib.hid hS4
              clear hS4
              have Xhsum := Lib.hid hsum
              clear hsum
              have XhU4 := Lib.hid hU4
              clear hU4
              have hD2 := sum_od q2 XhM4.out.lossy
              rw [Xhsum.out, XhS4.out.1, HL.out] at hD2
              obtain ⟨hD20, hD21⟩ := hD2
              have hD22 : D + (-v) ≤ 70368744177664 := by omega
              clear hD21
              clear hK4 hv
              go_wp2_with fail
              refine (downs_calls A n cap ps q2 w4 XhP4.out XhM4.out hn).mono ?_
              rintro e w5 ⟨rfl, hb5⟩
              rw [Xhsum.out]
              have XM5 := Lib.hid (XhM4.out.below hb5)
              have XP5 := Lib.hid (XhP4.out.below hb5)
              have XK5 := Lib.hid (XhK4'.out.below hb5)
              clear hb5
              go_wp2_with fail
              go_roundw
              case rel => exact ⟨q2, D + (-v), rfl, by omega, by omega, Lib.hid Xhsum.out.symm, XM5, XP5, XK5, XhS4, XhU4⟩
              case measure => simp [intOf]; omega
        · skip
          go_wp2_with fail
          refine (downs_calls A n cap ps q1 wr HPr.out HMr.out hn).mono ?_
          rintro e w3 ⟨rfl, hb⟩
          have HM3 := Lib.hid (HMr.out.below hb)
          have HK3 := Lib.hid (HKr.out.below hb)
          clear hb
          go_wp2_with fail
          go_ret
          exact ⟨q1, rfl, Or.inr ⟨_, _, HQ.out, HU.out _ _ (Dn.stop (st q1) (by show (q1.map od).sum ≤ T; rw [← HD.out]; omega))⟩, HM3.out, HS.out, HK3.out⟩

end Go.Proofs.Ytllbpjaiplnbnaa

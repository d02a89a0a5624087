import Derived.Test.YtllbpjaiplnbnaaNotes
import Derived.Test.YtllbpjaiplnbnaaAllot
namespace Go.Proofs.Ytllbpjaiplnbnaa
open Go.RowKit
set_option linter.unusedVariables false
set_option linter.unusedSimpArgs false
/-- A pointer to a note, or nil. -/
def ptrV : Option (Nat × Nat) → Value
  | none => .pointer none
  | some a => .pointer (some ⟨a.1, a.2, none⟩)
def ob : Option Nt → Int
  | none => 0
  | some z => z.bal
def od : Option Nt → Int
  | none => 0
  | some z => z.dn
def orr : Option Nt → Int
  | none => 0
  | some z => z.r
/-- A note with a balance. -/
structure Lossy (z : Nt) : Prop where
  j : z.j = 0
  i0 : 0 ≤ z.i
  i1 : z.i ≤ 1099511627776
  og : z.og ≤ 1099511627776
  bal : 0 ≤ z.bal
  sh0 : 0 ≤ z.sh
  sh1 : z.sh ≤ 1152921504606846976
  dn0 : 0 ≤ z.dn
/-- Where notes lie. -/
structure PMem (W : World) (ps : List (Option (Nat × Nat))) (qs : List (Option Nt)) : Prop where
  len : ps.length = qs.length
  at_ : ∀ (k : Nat) (z : Nt), qs[k]? = some (some z) → ∃ g o, ps[k]? = some (some (g, o)) ∧ ∃ cs t, Blk W g cs t ∧ NoteAt cs o z.r z.og z.rt z.i z.j z.sh z.dn
  nil : ∀ k : Nat, qs[k]? = some none → ps[k]? = some none
  apart : ∀ (k k' : Nat) (a a' : Nat × Nat), ps[k]? = some (some a) → ps[k']? = some (some a') → k ≠ k' → a.1 ≠ a'.1 ∨ a.2 + 7 ≤ a'.2 ∨ a'.2 + 7 ≤ a.2
  lossy : ∀ z, some z ∈ qs → Lossy z
theorem PMem.below {W W' : World} {ps : List (Option (Nat × Nat))} {qs : List (Option Nt)} (h : PMem W ps qs) (hb : Below W.heap.size W W') : PMem W' ps qs :=
  ⟨h.len, fun k z hz => by
    obtain ⟨g, o, e, cs, t, hk, hn⟩ := h.at_ k z hz
    exact ⟨g, o, e, cs, t, hk.below hb, hn⟩, h.nil, h.apart, h.lossy⟩
theorem ptr_at {W : World} {A : Option Addr} {n : Nat} {ps : List (Option (Nat × Nat))} (h : Src W A n 1 (ps.map ptrV)) {k : Nat} {a : Option (Nat × Nat)} (hk : ps[k]? = some a) : k < n ∧ ∃ ad, A = some ad ∧ W.cell? (ad.add k) = some (ptrV a) := by
  have hl : ps.length = n := by have := h.1; simpa using this
  have hlt : k < ps.length := (List.getElem?_eq_some_iff.1 hk).1
  obtain ⟨ad, e, hc⟩ := h.2 (by omega)
  exact ⟨by omega, ad, e, hc k _ (by simp [hk])⟩
theorem getD_map {α : Type} (f : α → Int) (l : List α) (k : Nat) (x : α) (h : l[k]? = some x) : (l.map f).getD k 0 = f x := by simp [List.getD_eq_getElem?_getD, h]

set_option maxHeartbeats 2000000 in
set_option maxRecDepth 100000 in
theorem downs_calls (A : Option Addr) (n cap : Nat) (ps : List (Option (Nat × Nat))) (qs : List (Option Nt)) (w : World) (hP : Src w A n 1 (ps.map ptrV)) (hM : PMem w ps qs) (hn : n ≤ 64) : Calls Try.prog 36 #[.slice A n cap] w fun e w' => e = .returned (.int .i64 (qs.map od).sum) ∧ Below w.heap.size w w' := by
  have hl : qs.length = n := by have := hP.1; rw [List.length_map, hM.len] at this; omega
  have HP := Lib.hid hP
  have HM := Lib.hid hM
  clear hP hM
  have HL := Lib.hid hl
  clear hl
  have HS0 := Lib.hid (Sts.nil w)
  go_enter Try.func36, Try.ntmps36
  go_wp2_with fail
  go_loopw [3, 8] (fun v3 v8 wr => ∃ (k : Nat) (b : Int), v3 = .int .i64 b ∧ v8 = .int .i64 k ∧ k ≤ n ∧ 0 ≤ b ∧ b ≤ 4398046511104 * k ∧ Hid (b = ((qs.take k).map od).sum) ∧ Hid (Sts w [] wr)) (fun _ v8 _ => n - (intOf v8).toNat)
  case atStart => exact ⟨0, 0, rfl, rfl, by omega, by omega, by omega, rfl, HS0⟩
  case round =>
    obtain ⟨k, b, rfl, rfl, hk, b0, b1, HE, HSr⟩ := hrel
    clear HS0
    by_cases q1 : k < n
    · obtain ⟨x, hq⟩ : ∃ x, qs[k]? = some x := ⟨_, List.getElem?_eq_getElem (by rw [HL.out]; exact q1)⟩
      have HZ := Lib.hid (take_next od qs k x hq)
      cases x with
      | none =>
        obtain ⟨_, ad, hA, hc⟩ := ptr_at HP.out (HM.out.nil k hq)
        replace hc := HSr.out.old hc
        obtain rfl := hA
        simp only [ptrV] at hc
        go_wp2_with fail
        go_roundw
        case rel => exact ⟨k + 1, b, rfl, by go_num, by omega, by omega, by omega, by unfold Hid; rw [HE.out, HZ.out]; simp [od], HSr⟩
        case measure => simp [intOf]; omega
      | some z =>
        obtain ⟨g, o, hp, cs, t, hb, hA⟩ := HM.out.at_ k z hq
        obtain ⟨ar0, ar1, ar2, ar3, ar4, ar5, ar6, ar7⟩ := HM.out.lossy z (List.mem_of_getElem? hq)
        have ar8 : z.bal = z.og - (z.i - z.j) - z.dn := rfl
        have ar9 : 0 ≤ z.og := by omega
        have ar10 : z.dn ≤ 1099511627776 := by omega
        have AR8 := Lib.hid ar8
        clear ar8
        obtain ⟨_, ad, hAd, hc⟩ := ptr_at HP.out hp
        replace hc := HSr.out.old hc
        obtain rfl := hAd
        simp only [ptrV] at hc
        have d6 : wr.cell? ⟨g, o + 6, none⟩ = some (.int .i64 z.dn) := HSr.out.old ((hb.cell _).trans hA.c6)
        have x1 : z.dn ≤ 4398046511104 := by omega
        clear hp hb hA hq
        go_wp2_with fail
        go_roundw
        case rel => exact ⟨k + 1, b + z.dn, rfl, by go_num, by omega, by omega, by omega, by unfold Hid; rw [HE.out, HZ.out]; rfl, HSr⟩
        case measure => simp [intOf]; omega
    · obtain rfl : k = n := by omega
      have hE := HE.out
      rw [List.take_of_length_le (by rw [HL.out]; omega)] at hE
      have HE2 := Lib.hid hE
      clear hE
      go_wp2
      go_ret
      exact ⟨congrArg (fun x => Ending.returned (Value.int .i64 x)) HE2.out, HSr.out.bel⟩

theorem jun_keep {rs bs : List Int} {k : Nat} {y : Option Nat} (h : jun rs bs k = y) (h0 : bs.getD k 0 ≤ 0) : jun rs bs (k + 1) = y := by
  unfold jun; rw [h]; cases y
  · simp only; rw [if_neg (by omega)]
  · simp only; rw [if_neg (by omega)]
theorem jun_first {rs bs : List Int} {k : Nat} (h : jun rs bs k = none) (h0 : 0 < bs.getD k 0) : jun rs bs (k + 1) = some k := by
  unfold jun; rw [h]; simp only; rw [if_pos h0]
theorem jun_next {rs bs : List Int} {k j : Nat} (h : jun rs bs k = some j) (h0 : 0 < bs.getD k 0) (h1 : rs.getD j 0 ≤ rs.getD k 0) : jun rs bs (k + 1) = some k := by
  unfold jun; rw [h]; simp only; rw [if_pos ⟨h0, h1⟩]
theorem jun_stay {rs bs : List Int} {k j : Nat} (h : jun rs bs k = some j) (h1 : ¬ (rs.getD j 0 ≤ rs.getD k 0)) : jun rs bs (k + 1) = some j := by
  unfold jun; rw [h]; simp only; rw [if_neg (fun hc => h1 hc.2)]

def sel (ps : List (Option (Nat × Nat))) (y : Option Nat) : Option (Nat × Nat) := y.bind fun j => ps.getD j none

set_option maxHeartbeats 2000000 in
set_option maxRecDepth 100000 in
theorem junior_calls (A : Option Addr) (n cap : Nat) (ps : List (Option (Nat × Nat))) (qs : List (Option Nt)) (w : World) (hP : Src w A n 1 (ps.map ptrV)) (hM : PMem w ps qs) (hn : n ≤ 64) : Calls Try.prog 37 #[.slice A n cap] w fun e w' => e = .returned (ptrV (sel ps (jun (qs.map orr) (qs.map ob) n))) ∧ Below w.heap.size w w' := by
  have hl : qs.length = n := by have := hP.1; rw [List.length_map, hM.len] at this; omega
  have HP := Lib.hid hP
  have HM := Lib.hid hM
  clear hP hM
  have HL := Lib.hid hl
  clear hl
  have HS0 := Lib.hid (Sts.nil w)
  go_enter Try.func37, Try.ntmps37
  go_wp2_with fail
  go_loopw [3, 8] (fun v3 v8 wr => ∃ (k : Nat) (y : Option Nat), v3 = ptrV (sel ps y) ∧ v8 = .int .i64 k ∧ k ≤ n ∧ Hid (jun (qs.map orr) (qs.map ob) k = y) ∧ Hid (Sts w [] wr)) (fun _ v8 _ => n - (intOf v8).toNat)
  case atStart => exact ⟨0, none, rfl, rfl, by omega, rfl, HS0⟩
  case round =>
    obtain ⟨k, y, rfl, rfl, hk, HE, HSr⟩ := hrel
    clear HS0
    by_cases q1 : k < n
    · obtain ⟨x, hq⟩ : ∃ x, qs[k]? = some x := ⟨_, List.getElem?_eq_getElem (by rw [HL.out]; exact q1)⟩
      have hv := getD_map ob qs k x hq
      have hr := getD_map orr qs k x hq
      have HV := Lib.hid hv
      have HR := Lib.hid hr
      clear hv hr
      cases x with
      | none =>
        obtain ⟨_, ad, hA, hc⟩ := ptr_at HP.out (HM.out.nil k hq)
        have hcq := hc
        replace hc := HSr.out.old hc
        obtain rfl := hA
        simp only [ptrV] at hc
        go_upto_region 5 with fail
        generalize hv3 : ptrV (sel ps y) = v3
        have HV3 := Lib.hid hv3
        clear hv3
        clear hc hcq
        refine wp_region_sts HSr.out (by kernel_rfl) (by kernel_rfl) ?_
        have hne : Nonempty (Later w []) := ⟨⟨_, HSr.out⟩⟩
        repeat (go_big_quiet_step (first | fail))
        clear hne
        refine wpQuiet_nil ?_
        rintro w11 ⟨⟨_, hs⟩, rfl⟩
        have HS11 := Lib.hid hs
        clear hs HSr
        go_wp2_with fail
        go_roundw
        case rel => exact ⟨k + 1, _, HV3.out.symm, by go_num, by omega, by unfold Hid; exact jun_keep HE.out (by rw [HV.out]; simp [ob]), HS11⟩
        case measure => simp [intOf]; omega
      | some z =>
        obtain ⟨g, o, hp, cs, t, hb, hA⟩ := HM.out.at_ k z hq
        obtain ⟨ar0, ar1, ar2, ar3, ar4, ar5, ar6, ar7⟩ := HM.out.lossy z (List.mem_of_getElem? hq)
        have ar8 : z.bal = z.og - (z.i - z.j) - z.dn := rfl
        have ar9 : 0 ≤ z.og := by omega
        have ar10 : z.dn ≤ 1099511627776 := by omega
        have AR8 := Lib.hid ar8
        clear ar8
        have hpk := hp
        obtain ⟨_, ad, hAd, hc⟩ := ptr_at HP.out hp
        replace hc := HSr.out.old hc
        obtain rfl := hAd
        simp only [ptrV] at hc
        go_upto_region 5 with fail
        clear hc
        by_cases r1 : 0 < z.bal
        · skip
          cases y with
          | none =>
            simp only [sel, Option.bind_none, ptrV]
            refine wp_region_sts HSr.out (by kernel_rfl) (by kernel_rfl) ?_
            have hne : Nonempty (Later w []) := ⟨⟨_, HSr.out⟩⟩
            have e0 : ∀ p : Later w [], p.val.cell? ⟨g, o, none⟩ = some (.int .i64 z.r) := fun p => p.property.old ((hb.cell _).trans hA.c0)
            have e1 : ∀ p : Later w [], p.val.cell? ⟨g, o + 1, none⟩ = some (.int .i64 z.og) := fun p => p.property.old ((hb.cell _).trans hA.c1)
            have e2 : ∀ p : Later w [], p.val.cell? ⟨g, o + 2, none⟩ = some (.int .i64 z.rt) := fun p => p.property.old ((hb.cell _).trans hA.c2)
            have e3 : ∀ p : Later w [], p.val.cell? ⟨g, o + 3, none⟩ = some (.int .i64 z.i) := fun p => p.property.old ((hb.cell _).trans hA.c3)
            have e4 : ∀ p : Later w [], p.val.cell? ⟨g, o + 4, none⟩ = some (.int .i64 z.j) := fun p => p.property.old ((hb.cell _).trans hA.c4)
            have e5 : ∀ p : Later w [], p.val.cell? ⟨g, o + 5, none⟩ = some (.int .i64 z.sh) := fun p => p.property.old ((hb.cell _).trans hA.c5)
            have e6 : ∀ p : Later w [], p.val.cell? ⟨g, o + 6, none⟩ = some (.int .i64 z.dn) := fun p => p.property.old ((hb.cell _).trans hA.c6)
            have z1 : decide (((0 : Int)) < z.bal) = true := decide_eq_true (by omega)
            repeat (go_big_quiet_step (first | (go_at_call 17; exact Goes.quiet (balance_s z.bal _ _ _ _ _ _ _ (Later.property _) ⟨by omega, by omega, by omega, by omega, by omega, by omega, by omega, by omega, by omega⟩ (by have := AR8.out; omega)))))
            clear hne e0 e1 e2 e3 e4 e5 e6 z1
            refine wpQuiet_nil ?_
            rintro w11 ⟨⟨_, hs⟩, rfl⟩
            have HS11 := Lib.hid hs
            clear hs HSr
            go_wp2_with fail
            go_roundw
            case rel => exact ⟨k + 1, some k, by simp [sel, hpk, ptrV], by go_num, by omega, by unfold Hid; exact jun_first HE.out (by rw [HV.out]; exact r1), HS11⟩
            case measure => simp [intOf]; omega
          | some j =>
            obtain ⟨hj0, hj1, _⟩ := jun_some _ _ _ _ HE.out
            obtain ⟨xj, hqx⟩ : ∃ x, qs[j]? = some x := ⟨_, List.getElem?_eq_getElem (by rw [HL.out]; omega)⟩
            rw [getD_map ob qs j xj hqx] at hj1
            have hrj := getD_map orr qs j xj hqx
            have HRJ := Lib.hid hrj
            clear hrj
            cases xj with
            | none => simp [ob] at hj1
            | some z2 =>
              have hq2 := hqx
              obtain ⟨g2, o2, hp2, cs2, t2, hb2, hA2⟩ := HM.out.at_ j z2 hq2
              obtain ⟨ar20, ar21, ar22, ar23, ar24, ar25, ar26, ar27⟩ := HM.out.lossy z2 (List.mem_of_getElem? hq2)
              have ar28 : z2.bal = z2.og - (z2.i - z2.j) - z2.dn := rfl
              have ar29 : 0 ≤ z2.og := by omega
              have ar210 : z2.dn ≤ 1099511627776 := by omega
              have AR28 := Lib.hid ar28
              clear ar28
              have hsel : ptrV (sel ps (some j)) = .pointer (some ⟨g2, o2, none⟩) := by simp [sel, hp2, ptrV]
              rw [hsel]
              by_cases r2 : z2.r ≤ z.r
              · skip
                refine wp_region_sts HSr.out (by kernel_rfl) (by kernel_rfl) ?_
                have hne : Nonempty (Later w []) := ⟨⟨_, HSr.out⟩⟩
                have e0 : ∀ p : Later w [], p.val.cell? ⟨g, o, none⟩ = some (.int .i64 z.r) := fun p => p.property.old ((hb.cell _).trans hA.c0)
                have e1 : ∀ p : Later w [], p.val.cell? ⟨g, o + 1, none⟩ = some (.int .i64 z.og) := fun p => p.property.old ((hb.cell _).trans hA.c1)
                have e2 : ∀ p : Later w [], p.val.cell? ⟨g, o + 2, none⟩ = some (.int .i64 z.rt) := fun p => p.property.old ((hb.cell _).trans hA.c2)
                have e3 : ∀ p : Later w [], p.val.cell? ⟨g, o + 3, none⟩ = some (.int .i64 z.i) := fun p => p.property.old ((hb.cell _).trans hA.c3)
                have e4 : ∀ p : Later w [], p.val.cell? ⟨g, o + 4, none⟩ = some (.int .i64 z.j) := fun p => p.property.old ((hb.cell _).trans hA.c4)
                have e5 : ∀ p : Later w [], p.val.cell? ⟨g, o + 5, none⟩ = some (.int .i64 z.sh) := fun p => p.property.old ((hb.cell _).trans hA.c5)
                have e6 : ∀ p : Later w [], p.val.cell? ⟨g, o + 6, none⟩ = some (.int .i64 z.dn) := fun p => p.property.old ((hb.cell _).trans hA.c6)
                have e20 : ∀ p : Later w [], p.val.cell? ⟨g2, o2, none⟩ = some (.int .i64 z2.r) := fun p => p.property.old ((hb2.cell _).trans hA2.c0)
                have z4 : decide (((0 : Int)) < z.bal) = true := decide_eq_true (by omega)
                have z2 : decide (((z2.r : Int)) ≤ z.r) = true := decide_eq_true (by omega)
                repeat (go_big_quiet_step (first | (go_at_call 17; exact Goes.quiet (balance_s z.bal _ _ _ _ _ _ _ (Later.property _) ⟨by omega, by omega, by omega, by omega, by omega, by omega, by omega, by omega, by omega⟩ (by have := AR8.out; omega)))))
                clear hne e0 e1 e2 e3 e4 e5 e6 e20 z4 z2
                refine wpQuiet_nil ?_
                rintro w11 ⟨⟨_, hs⟩, rfl⟩
                have HS11 := Lib.hid hs
                clear hs HSr
                go_wp2_with fail
                go_roundw
                case rel => exact ⟨k + 1, some k, by simp [sel, hpk, ptrV], by go_num, by omega, by unfold Hid; exact jun_next HE.out (by rw [HV.out]; exact r1) (by rw [HR.out, HRJ.out]; exact r2), HS11⟩
                case measure => simp [intOf]; omega
              · skip
                refine wp_region_sts HSr.out (by kernel_rfl) (by kernel_rfl) ?_
                have hne : Nonempty (Later w []) := ⟨⟨_, HSr.out⟩⟩
                have e0 : ∀ p : Later w [], p.val.cell? ⟨g, o, none⟩ = some (.int .i64 z.r) := fun p => p.property.old ((hb.cell _).trans hA.c0)
                have e1 : ∀ p : Later w [], p.val.cell? ⟨g, o + 1, none⟩ = some (.int .i64 z.og) := fun p => p.property.old ((hb.cell _).trans hA.c1)
                have e2 : ∀ p : Later w [], p.val.cell? ⟨g, o + 2, none⟩ = some (.int .i64 z.rt) := fun p => p.property.old ((hb.cell _).trans hA.c2)
                have e3 : ∀ p : Later w [], p.val.cell? ⟨g, o + 3, none⟩ = some (.int .i64 z.i) := fun p => p.property.old ((hb.cell _).trans hA.c3)
                have e4 : ∀ p : Later w [], p.val.cell? ⟨g, o + 4, none⟩ = some (.int .i64 z.j) := fun p => p.property.old ((hb.cell _).trans hA.c4)
                have e5 : ∀ p : Later w [], p.val.cell? ⟨g, o + 5, none⟩ = some (.int .i64 z.sh) := fun p => p.property.old ((hb.cell _).trans hA.c5)
                have e6 : ∀ p : Later w [], p.val.cell? ⟨g, o + 6, none⟩ = some (.int .i64 z.dn) := fun p => p.property.old ((hb.cell _).trans hA.c6)
                have e20 : ∀ p : Later w [], p.val.cell? ⟨g2, o2, none⟩ = some (.int .i64 z2.r) := fun p => p.property.old ((hb2.cell _).trans hA2.c0)
                have z5 : decide (((0 : Int)) < z.bal) = true := decide_eq_true (by omega)
                have z3 : decide (((z2.r : Int)) ≤ z.r) = false := decide_eq_false (by omega)
                repeat (go_big_quiet_step (first | (go_at_call 17; exact Goes.quiet (balance_s z.bal _ _ _ _ _ _ _ (Later.property _) ⟨by omega, by omega, by omega, by omega, by omega, by omega, by omega, by omega, by omega⟩ (by have := AR8.out; omega)))))
                clear hne e0 e1 e2 e3 e4 e5 e6 e20 z5 z3
                refine wpQuiet_nil ?_
                rintro w11 ⟨⟨_, hs⟩, rfl⟩
                have HS11 := Lib.hid hs
                clear hs HSr
                rw [← hsel]
                go_wp2_with fail
                go_roundw
                case rel => exact ⟨k + 1, _, rfl, by go_num, by omega, by unfold Hid; exact jun_stay HE.out (by rw [HR.out, HRJ.out]; exact r2), HS11⟩
                case measure => simp [intOf]; omega
        · skip
          generalize hv3 : ptrV (sel ps y) = v3
          have HV3 := Lib.hid hv3
          clear hv3
          refine wp_region_sts HSr.out (by kernel_rfl) (by kernel_rfl) ?_
          have hne : Nonempty (Later w []) := ⟨⟨_, HSr.out⟩⟩
          have e0 : ∀ p : Later w [], p.val.cell? ⟨g, o, none⟩ = some (.int .i64 z.r) := fun p => p.property.old ((hb.cell _).trans hA.c0)
          have e1 : ∀ p : Later w [], p.val.cell? ⟨g, o + 1, none⟩ = some (.int .i64 z.og) := fun p => p.property.old ((hb.cell _).trans hA.c1)
          have e2 : ∀ p : Later w [], p.val.cell? ⟨g, o + 2, none⟩ = some (.int .i64 z.rt) := fun p => p.property.old ((hb.cell _).trans hA.c2)
          have e3 : ∀ p : Later w [], p.val.cell? ⟨g, o + 3, none⟩ = some (.int .i64 z.i) := fun p => p.property.old ((hb.cell _).trans hA.c3)
          have e4 : ∀ p : Later w [], p.val.cell? ⟨g, o + 4, none⟩ = some (.int .i64 z.j) := fun p => p.property.old ((hb.cell _).trans hA.c4)
          have e5 : ∀ p : Later w [], p.val.cell? ⟨g, o + 5, none⟩ = some (.int .i64 z.sh) := fun p => p.property.old ((hb.cell _).trans hA.c5)
          have e6 : ∀ p : Later w [], p.val.cell? ⟨g, o + 6, none⟩ = some (.int .i64 z.dn) := fun p => p.property.old ((hb.cell _).trans hA.c6)
          have z6 : decide (((0 : Int)) < z.bal) = false := decide_eq_false (by omega)
          repeat (go_big_quiet_step (first | (go_at_call 17; exact Goes.quiet (balance_s z.bal _ _ _ _ _ _ _ (Later.property _) ⟨by omega, by omega, by omega, by omega, by omega, by omega, by omega, by omega, by omega⟩ (by have := AR8.out; omega)))))
          clear hne e0 e1 e2 e3 e4 e5 e6 z6
          refine wpQuiet_nil ?_
          rintro w11 ⟨⟨_, hs⟩, rfl⟩
          have HS11 := Lib.hid hs
          clear hs HSr
          go_wp2_with fail
          go_roundw
          case rel => exact ⟨k + 1, _, HV3.out.symm, by go_num, by omega, by unfold Hid; exact jun_keep HE.out (by rw [HV.out]; exact Int.not_lt.1 r1), HS11⟩
          case measure => simp [intOf]; omega
    · obtain rfl : k = n := by omega
      go_wp2
      go_ret
      exact ⟨congrArg (fun x => Ending.returned (ptrV (sel ps x))) HE.out.symm, HSr.out.bel⟩

theorem sen_keep {rs bs : List Int} {k : Nat} {y : Option Nat} (h : sen rs bs k = y) (h0 : bs.getD k 0 ≤ 0) : sen rs bs (k + 1) = y := by
  unfold sen; rw [h]; cases y
  · simp only; rw [if_neg (by omega)]
  · simp only; rw [if_neg (by omega)]
theorem sen_first {rs bs : List Int} {k : Nat} (h : sen rs bs k = none) (h0 : 0 < bs.getD k 0) : sen rs bs (k + 1) = some k := by
  unfold sen; rw [h]; simp only; rw [if_pos h0]
theorem sen_next {rs bs : List Int} {k j : Nat} (h : sen rs bs k = some j) (h0 : 0 < bs.getD k 0) (h1 : rs.getD k 0 < rs.getD j 0) : sen rs bs (k + 1) = some k := by
  unfold sen; rw [h]; simp only; rw [if_pos ⟨h0, h1⟩]
theorem sen_stay {rs bs : List Int} {k j : Nat} (h : sen rs bs k = some j) (h1 : ¬ (rs.getD k 0 < rs.getD j 0)) : sen rs bs (k + 1) = some j := by
  unfold sen; rw [h]; simp only; rw [if_neg (fun hc => h1 hc.2)]

set_option maxHeartbeats 2000000 in
set_option maxRecDepth 100000 in
theorem senior_calls (A : Option Addr) (n cap : Nat) (ps : List (Option (Nat × Nat))) (qs : List (Option Nt)) (w : World) (hP : Src w A n 1 (ps.map ptrV)) (hM : PMem w ps qs) (hn : n ≤ 64) : Calls Try.prog 38 #[.slice A n cap] w fun e w' => e = .returned (ptrV (sel ps (sen (qs.map orr) (qs.map od) n))) ∧ Below w.heap.size w w' := by
  have hl : qs.length = n := by have := hP.1; rw [List.length_map, hM.len] at this; omega
  have HP := Lib.hid hP
  have HM := Lib.hid hM
  clear hP hM
  have HL := Lib.hid hl
  clear hl
  have HS0 := Lib.hid (Sts.nil w)
  go_enter Try.func38, Try.ntmps38
  go_wp2_with fail
  go_loopw [3, 8] (fun v3 v8 wr => ∃ (k : Nat) (y : Option Nat), v3 = ptrV (sel ps y) ∧ v8 = .int .i64 k ∧ k ≤ n ∧ Hid (sen (qs.map orr) (qs.map od) k = y) ∧ Hid (Sts w [] wr)) (fun _ v8 _ => n - (intOf v8).toNat)
  case atStart => exact ⟨0, none, rfl, rfl, by omega, rfl, HS0⟩
  case round =>
    obtain ⟨k, y, rfl, rfl, hk, HE, HSr⟩ := hrel
    clear HS0
    by_cases q1 : k < n
    · obtain ⟨x, hq⟩ : ∃ x, qs[k]? = some x := ⟨_, List.getElem?_eq_getElem (by rw [HL.out]; exact q1)⟩
      have hv := getD_map od qs k x hq
      have hr := getD_map orr qs k x hq
      have HV := Lib.hid hv
      have HR := Lib.hid hr
      clear hv hr
      cases x with
      | none =>
        obtain ⟨_, ad, hA, hc⟩ := ptr_at HP.out (HM.out.nil k hq)
        have hcq := hc
        replace hc := HSr.out.old hc
        obtain rfl := hA
        simp only [ptrV] at hc
        go_upto_region 5 with fail
        generalize hv3 : ptrV (sel ps y) = v3
        have HV3 := Lib.hid hv3
        clear hv3
        clear hc hcq
        refine wp_region_sts HSr.out (by kernel_rfl) (by kernel_rfl) ?_
        have hne : Nonempty (Later w []) := ⟨⟨_, HSr.out⟩⟩
        repeat (go_big_quiet_step (first | fail))
        clear hne
        refine wpQuiet_nil ?_
        rintro w11 ⟨⟨_, hs⟩, rfl⟩
        have HS11 := Lib.hid hs
        clear hs HSr
        go_wp2_with fail
        go_roundw
        case rel => exact ⟨k + 1, _, HV3.out.symm, by go_num, by omega, by unfold Hid; exact sen_keep HE.out (by rw [HV.out]; simp [od]), HS11⟩
        case measure => simp [intOf]; omega
      | some z =>
        obtain ⟨g, o, hp, cs, t, hb, hA⟩ := HM.out.at_ k z hq
        obtain ⟨ar0, ar1, ar2, ar3, ar4, ar5, ar6, ar7⟩ := HM.out.lossy z (List.mem_of_getElem? hq)
        have ar8 : z.bal = z.og - (z.i - z.j) - z.dn := rfl
        have ar9 : 0 ≤ z.og := by omega
        have ar10 : z.dn ≤ 1099511627776 := by omega
        have AR8 := Lib.hid ar8
        clear ar8
        have hpk := hp
        obtain ⟨_, ad, hAd, hc⟩ := ptr_at HP.out hp
        replace hc := HSr.out.old hc
        obtain rfl := hAd
        simp only [ptrV] at hc
        go_upto_region 5 with fail
        clear hc
        by_cases r1 : 0 < z.dn
        · skip
          cases y with
          | none =>
            simp only [sel, Option.bind_none, ptrV]
            refine wp_region_sts HSr.out (by kernel_rfl) (by kernel_rfl) ?_
            have hne : Nonempty (Later w []) := ⟨⟨_, HSr.out⟩⟩
            have e0 : ∀ p : Later w [], p.val.cell? ⟨g, o, none⟩ = some (.int .i64 z.r) := fun p => p.property.old ((hb.cell _).trans hA.c0)
            have e1 : ∀ p : Later w [], p.val.cell? ⟨g, o + 1, none⟩ = some (.int .i64 z.og) := fun p => p.property.old ((hb.cell _).trans hA.c1)
            have e2 : ∀ p : Later w [], p.val.cell? ⟨g, o + 2, none⟩ = some (.int .i64 z.rt) := fun p => p.property.old ((hb.cell _).trans hA.c2)
            have e3 : ∀ p : Later w [], p.val.cell? ⟨g, o + 3, none⟩ = some (.int .i64 z.i) := fun p => p.property.old ((hb.cell _).trans hA.c3)
            have e4 : ∀ p : Later w [], p.val.cell? ⟨g, o + 4, none⟩ = some (.int .i64 z.j) := fun p => p.property.old ((hb.cell _).trans hA.c4)
            have e5 : ∀ p : Later w [], p.val.cell? ⟨g, o + 5, none⟩ = some (.int .i64 z.sh) := fun p => p.property.old ((hb.cell _).trans hA.c5)
            have e6 : ∀ p : Later w [], p.val.cell? ⟨g, o + 6, none⟩ = some (.int .i64 z.dn) := fun p => p.property.old ((hb.cell _).trans hA.c6)
            have z7 : decide (((0 : Int)) < z.dn) = true := decide_eq_true (by omega)
            repeat (go_big_quiet_step (first | fail))
            clear hne e0 e1 e2 e3 e4 e5 e6 z7
            refine wpQuiet_nil ?_
            rintro w11 ⟨⟨_, hs⟩, rfl⟩
            have HS11 := Lib.hid hs
            clear hs HSr
            go_wp2_with fail
            go_roundw
            case rel => exact ⟨k + 1, some k, by simp [sel, hpk, ptrV], by go_num, by omega, by unfold Hid; exact sen_first HE.out (by rw [HV.out]; exact r1), HS11⟩
            case measure => simp [intOf]; omega
          | some j =>
            obtain ⟨hj0, hj1, _⟩ := sen_some _ _ _ _ HE.out
            obtain ⟨xj, hqx⟩ : ∃ x, qs[j]? = some x := ⟨_, List.getElem?_eq_getElem (by rw [HL.out]; omega)⟩
            rw [getD_map od qs j xj hqx] at hj1
            have hrj := getD_map orr qs j xj hqx
            have HRJ := Lib.hid hrj
            clear hrj
            cases xj with
            | none => simp [od] at hj1
            | some z2 =>
              have hq2 := hqx
              obtain ⟨g2, o2, hp2, cs2, t2, hb2, hA2⟩ := HM.out.at_ j z2 hq2
              obtain ⟨ar20, ar21, ar22, ar23, ar24, ar25, ar26, ar27⟩ := HM.out.lossy z2 (List.mem_of_getElem? hq2)
              have ar28 : z2.bal = z2.og - (z2.i - z2.j) - z2.dn := rfl
              have ar29 : 0 ≤ z2.og := by omega
              have ar210 : z2.dn ≤ 1099511627776 := by omega
              have AR28 := Lib.hid ar28
              clear ar28
              have hsel : ptrV (sel ps (some j)) = .pointer (some ⟨g2, o2, none⟩) := by simp [sel, hp2, ptrV]
              rw [hsel]
              by_cases r2 : z.r < z2.r
              · skip
                refine wp_region_sts HSr.out (by kernel_rfl) (by kernel_rfl) ?_
                have hne : Nonempty (Later w []) := ⟨⟨_, HSr.out⟩⟩
                have e0 : ∀ p : Later w [], p.val.cell? ⟨g, o, none⟩ = some (.int .i64 z.r) := fun p => p.property.old ((hb.cell _).trans hA.c0)
                have e1 : ∀ p : Later w [], p.val.cell? ⟨g, o + 1, none⟩ = some (.int .i64 z.og) := fun p => p.property.old ((hb.cell _).trans hA.c1)
                have e2 : ∀ p : Later w [], p.val.cell? ⟨g, o + 2, none⟩ = some (.int .i64 z.rt) := fun p => p.property.old ((hb.cell _).trans hA.c2)
                have e3 : ∀ p : Later w [], p.val.cell? ⟨g, o + 3, none⟩ = some (.int .i64 z.i) := fun p => p.property.old ((hb.cell _).trans hA.c3)
                have e4 : ∀ p : Later w [], p.val.cell? ⟨g, o + 4, none⟩ = some (.int .i64 z.j) := fun p => p.property.old ((hb.cell _).trans hA.c4)
                have e5 : ∀ p : Later w [], p.val.cell? ⟨g, o + 5, none⟩ = some (.int .i64 z.sh) := fun p => p.property.old ((hb.cell _).trans hA.c5)
                have e6 : ∀ p : Later w [], p.val.cell? ⟨g, o + 6, none⟩ = some (.int .i64 z.dn) := fun p => p.property.old ((hb.cell _).trans hA.c6)
                have e20 : ∀ p : Later w [], p.val.cell? ⟨g2, o2, none⟩ = some (.int .i64 z2.r) := fun p => p.property.old ((hb2.cell _).trans hA2.c0)
                have z10 : decide (((0 : Int)) < z.dn) = true := decide_eq_true (by omega)
                have z8 : decide (((z.r : Int)) < z2.r) = true := decide_eq_true (by omega)
                repeat (go_big_quiet_step (first | fail))
                clear hne e0 e1 e2 e3 e4 e5 e6 e20 z10 z8
                refine wpQuiet_nil ?_
                rintro w11 ⟨⟨_, hs⟩, rfl⟩
                have HS11 := Lib.hid hs
                clear hs HSr
                go_wp2_with fail
                go_roundw
                case rel => exact ⟨k + 1, some k, by simp [sel, hpk, ptrV], by go_num, by omega, by unfold Hid; exact sen_next HE.out (by rw [HV.out]; exact r1) (by rw [HR.out, HRJ.out]; exact r2), HS11⟩
                case measure => simp [intOf]; omega
              · skip
                refine wp_region_sts HSr.out (by kernel_rfl) (by kernel_rfl) ?_
                have hne : Nonempty (Later w []) := ⟨⟨_, HSr.out⟩⟩
                have e0 : ∀ p : Later w [], p.val.cell? ⟨g, o, none⟩ = some (.int .i64 z.r) := fun p => p.property.old ((hb.cell _).trans hA.c0)
                have e1 : ∀ p : Later w [], p.val.cell? ⟨g, o + 1, none⟩ = some (.int .i64 z.og) := fun p => p.property.old ((hb.cell _).trans hA.c1)
                have e2 : ∀ p : Later w [], p.val.cell? ⟨g, o + 2, none⟩ = some (.int .i64 z.rt) := fun p => p.property.old ((hb.cell _).trans hA.c2)
                have e3 : ∀ p : Later w [], p.val.cell? ⟨g, o + 3, none⟩ = some (.int .i64 z.i) := fun p => p.property.old ((hb.cell _).trans hA.c3)
                have e4 : ∀ p : Later w [], p.val.cell? ⟨g, o + 4, none⟩ = some (.int .i64 z.j) := fun p => p.property.old ((hb.cell _).trans hA.c4)
                have e5 : ∀ p : Later w [], p.val.cell? ⟨g, o + 5, none⟩ = some (.int .i64 z.sh) := fun p => p.property.old ((hb.cell _).trans hA.c5)
                have e6 : ∀ p : Later w [], p.val.cell? ⟨g, o + 6, none⟩ = some (.int .i64 z.dn) := fun p => p.property.old ((hb.cell _).trans hA.c6)
                have e20 : ∀ p : Later w [], p.val.cell? ⟨g2, o2, none⟩ = some (.int .i64 z2.r) := fun p => p.property.old ((hb2.cell _).trans hA2.c0)
                have z11 : decide (((0 : Int)) < z.dn) = true := decide_eq_true (by omega)
                have z9 : decide (((z.r : Int)) < z2.r) = false := decide_eq_false (by omega)
                repeat (go_big_quiet_step (first | fail))
                clear hne e0 e1 e2 e3 e4 e5 e6 e20 z11 z9
                refine wpQuiet_nil ?_
                rintro w11 ⟨⟨_, hs⟩, rfl⟩
                have HS11 := Lib.hid hs
                clear hs HSr
                rw [← hsel]
                go_wp2_with fail
                go_roundw
                case rel => exact ⟨k + 1, _, rfl, by go_num, by omega, by unfold Hid; exact sen_stay HE.out (by rw [HR.out, HRJ.out]; exact r2), HS11⟩
                case measure => simp [intOf]; omega
        · skip
          generalize hv3 : ptrV (sel ps y) = v3
          have HV3 := Lib.hid hv3
          clear hv3
          refine wp_region_sts HSr.out (by kernel_rfl) (by kernel_rfl) ?_
          have hne : Nonempty (Later w []) := ⟨⟨_, HSr.out⟩⟩
          have e0 : ∀ p : Later w [], p.val.cell? ⟨g, o, none⟩ = some (.int .i64 z.r) := fun p => p.property.old ((hb.cell _).trans hA.c0)
          have e1 : ∀ p : Later w [], p.val.cell? ⟨g, o + 1, none⟩ = some (.int .i64 z.og) := fun p => p.property.old ((hb.cell _).trans hA.c1)
          have e2 : ∀ p : Later w [], p.val.cell? ⟨g, o + 2, none⟩ = some (.int .i64 z.rt) := fun p => p.property.old ((hb.cell _).trans hA.c2)
          have e3 : ∀ p : Later w [], p.val.cell? ⟨g, o + 3, none⟩ = some (.int .i64 z.i) := fun p => p.property.old ((hb.cell _).trans hA.c3)
          have e4 : ∀ p : Later w [], p.val.cell? ⟨g, o + 4, none⟩ = some (.int .i64 z.j) := fun p => p.property.old ((hb.cell _).trans hA.c4)
          have e5 : ∀ p : Later w [], p.val.cell? ⟨g, o + 5, none⟩ = some (.int .i64 z.sh) := fun p => p.property.old ((hb.cell _).trans hA.c5)
          have e6 : ∀ p : Later w [], p.val.cell? ⟨g, o + 6, none⟩ = some (.int .i64 z.dn) := fun p => p.property.old ((hb.cell _).trans hA.c6)
          have z12 : decide (((0 : Int)) < z.dn) = false := decide_eq_false (by omega)
          repeat (go_big_quiet_step (first | fail))
          clear hne e0 e1 e2 e3 e4 e5 e6 z12
          refine wpQuiet_nil ?_
          rintro w11 ⟨⟨_, hs⟩, rfl⟩
          have HS11 := Lib.hid hs
          clear hs HSr
          go_wp2_with fail
          go_roundw
          case rel => exact ⟨k + 1, _, HV3.out.symm, by go_num, by omega, by unfold Hid; exact sen_keep HE.out (by rw [HV.out]; exact Int.not_lt.1 r1), HS11⟩
          case measure => simp [intOf]; omega
    · obtain rfl : k = n := by omega
      go_wp2
      go_ret
      exact ⟨congrArg (fun x => Ending.returned (ptrV (sel ps x))) HE.out.symm, HSr.out.bel⟩

end Go.Proofs.Ytllbpjaiplnbnaa

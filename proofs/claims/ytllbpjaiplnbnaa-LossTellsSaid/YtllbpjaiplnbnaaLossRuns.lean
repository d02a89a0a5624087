import Derived.Test.YtllbpjaiplnbnaaAllotW
namespace Go.Proofs.Ytllbpjaiplnbnaa
open Go.RowKit
set_option linter.unusedVariables false
set_option linter.unusedSimpArgs false
attribute [local go_sem] bmax2 bmin2 bmax_two bmin_two bmax_three bmin_three
def targ (p q r s : Int) : Int := min (max (p - q) 0) (min (max (r - s) 0) (max p 0))
set_option maxHeartbeats 2000000 in
set_option maxRecDepth 100000 in
theorem target_calls (p q r s : Int) (w : World) (p0 : -1152921504606846976 ≤ p) (p1 : p ≤ 1152921504606846976) (q0 : -1152921504606846976 ≤ q) (q1 : q ≤ 1152921504606846976) (r0 : -1152921504606846976 ≤ r) (r1 : r ≤ 1152921504606846976) (s0 : -1152921504606846976 ≤ s) (s1 : s ≤ 1152921504606846976) :
    Calls Try.prog 23 #[.int .i64 p, .int .i64 q, .int .i64 r, .int .i64 s] w fun e w' => e = .returned (.int .i64 (targ p q r s)) ∧ Below w.heap.size w w' := by
  go_enter Try.func23, Try.ntmps23
  go_wp2
  go_ret
  exact ⟨rfl, Below.refl _ _⟩
theorem target_s {w0 W : World} {L : List Ent} (v p q r s : Int) (hS : Sts w0 L W) (p0 : -1152921504606846976 ≤ p) (p1 : p ≤ 1152921504606846976) (q0 : -1152921504606846976 ≤ q) (q1 : q ≤ 1152921504606846976) (r0 : -1152921504606846976 ≤ r) (r1 : r ≤ 1152921504606846976) (s0 : -1152921504606846976 ≤ s) (s1 : s ≤ 1152921504606846976) (hv : v = targ p q r s) :
    Calls Try.prog 23 #[.int .i64 p, .int .i64 q, .int .i64 r, .int .i64 s] W (Goes (.int .i64 v) w0 L) := by
  subst hv
  exact (target_calls p q r s W p0 p1 q0 q1 r0 r1 s0 s1).mono fun _ _ h => ⟨h.1, hS.below h.2⟩
/-- The tracked blocks behind an Allot. -/
theorem Sts.after {w0 W W' : World} {L : List Ent} {ps : List (Option (Nat × Nat))} (hS : Sts w0 L W) (hK : Keeps ps W W') (hps : ∀ (k : Nat) (a : Nat × Nat), ps[k]? = some (some a) → w0.heap.size ≤ a.1) (L' : List Ent) (hmap : L'.map (·.1) = L.map (·.1)) (hb : ∀ x ∈ L', Blk W' x.1 x.2.1 x.2.2) : Sts w0 L' W' := by
  have h := sts_iff.1 hS
  rw [sts_iff]
  refine ⟨fun x hx => ⟨hb x hx, ?_⟩, ?_, ?_⟩
  · have : x.1 ∈ L.map (·.1) := by rw [← hmap]; exact List.mem_map.2 ⟨x, hx, rfl⟩
    obtain ⟨y, hy, e⟩ := List.mem_map.1 this
    rw [← e]; exact (h.1 y hy).2
  · have h2 : (L.map (·.1)).Pairwise (· ≠ ·) := List.pairwise_map.2 h.2.1
    rw [← hmap] at h2
    exact List.pairwise_map.1 h2
  · exact hS.bel.trans ⟨hK.os, hK.tape, hK.output, hK.size, fun k hk => hK.block k (Nat.lt_of_lt_of_le hk hS.size) (fun i a hi e => by have := hps i a hi; omega)⟩
theorem Keeps.blk {ps : List (Option (Nat × Nat))} {W W' : World} {g : Nat} {cs : Array Value} {t : TypeId} (hK : Keeps ps W W') (h : Blk W g cs t) (hn : ∀ (k : Nat) (a : Nat × Nat), ps[k]? = some (some a) → a.1 ≠ g) : Blk W' g cs t := (hK.block g h.lt hn).trans h
/-- A block of one note. -/
theorem one_note {W W' : World} {ps : List (Option (Nat × Nat))} {qs : List (Option Nt)} {k g : Nat} {z : Nt} {cs : Array Value} {t : TypeId} (hM : PMem W' ps qs) (hK : Keeps ps W W') (hb : Blk W g cs t) (hs : cs.size = 7) (hq : qs[k]? = some (some z)) (hp : ps[k]? = some (some (g, 0))) :
    Blk W' g #[.int .i64 z.r, .int .i64 z.og, .int .i64 z.rt, .int .i64 z.i, .int .i64 z.j, .int .i64 z.sh, .int .i64 z.dn] t := by
  obtain ⟨cs1, h1, e1⟩ := hK.cells g cs t hb
  obtain ⟨g2, o2, hp2, cs2, t2, h2, hA⟩ := hM.at_ k z hq
  rw [hp] at hp2
  obtain ⟨rfl, rfl⟩ := Prod.mk.inj (Option.some.inj (Option.some.inj hp2))
  have e2 := h1.symm.trans h2
  simp only [Option.some.injEq, Obj.cells.injEq] at e2
  obtain ⟨rfl, rfl, _⟩ := e2
  refine h1.lit ?_
  apply Array.ext
  · rw [e1, hs]; rfl
  · intro i h3 h4
    obtain ⟨c0, c1, c2, c3, c4, c5, c6⟩ := hA
    simp only [Nat.zero_add] at c1 c2 c3 c4 c5 c6
    have hi : i < 7 := by simpa using h4
    rcases (by omega : i = 0 ∨ i = 1 ∨ i = 2 ∨ i = 3 ∨ i = 4 ∨ i = 5 ∨ i = 6) with rfl | rfl | rfl | rfl | rfl | rfl | rfl
    · exact (Array.getElem?_eq_some_iff.1 c0).2
    · exact (Array.getElem?_eq_some_iff.1 c1).2
    · exact (Array.getElem?_eq_some_iff.1 c2).2
    · exact (Array.getElem?_eq_some_iff.1 c3).2
    · exact (Array.getElem?_eq_some_iff.1 c4).2
    · exact (Array.getElem?_eq_some_iff.1 c5).2
    · exact (Array.getElem?_eq_some_iff.1 c6).2
theorem Same0.get {qs qs' : List (Option Nt)} (h : Same0 qs qs') {k : Nat} {z : Nt} (hq : qs[k]? = some (some z)) : qs'[k]? = some (some (z.down ((qs'.map od).getD k 0))) := by
  obtain ⟨d, hd⟩ := (h.2 k).2 z hq
  rw [getD_map od qs' k _ hd]
  exact hd
theorem up1 : Shared 40 [0, 1] 2 ([50, 30], [0, 0]) ([40, 0], [10, 30]) := .inr ⟨_, _, .step _ _ _ 1 (by decide) (by decide) (.step _ _ _ 0 (by decide) (by decide) (.stop _ (by decide))), .stop _ (by decide)⟩
theorem up2 : Shared 35 [0, 0, 1] 3 ([0, 40, 0], [0, 10, 30]) ([0, 45, 0], [0, 5, 30]) := .inr ⟨_, _, .stop _ (by decide), .step _ _ _ 1 (by decide) (by decide) (.stop _ (by decide))⟩
set_option maxHeartbeats 4000000 in
set_option maxRecDepth 100000 in
theorem lossRuns_calls (w : World) : Calls Try.prog 6 #[] w fun e w' => e = .returned (.bool true) ∧ Below w.heap.size w w' := by
  go_enter Try.func6, Try.ntmps6
  have HS0 := Lib.hid (Sts.nil w)
  go_wp2_with fail
  refine (new_s 0 50 0 HS0.out).mono ?_
  rintro e w1 ⟨rfl, hs⟩
  have HS1 := Lib.hid ((hs.lit rfl : Sts w [] w1))
  clear HS0
  clear hs
  go_wp2_with fail
  refine (new_s 1 30 0 HS1.out).mono ?_
  rintro e w2 ⟨rfl, hs⟩
  have HS2 := Lib.hid ((hs.lit rfl : Sts w [] w2))
  clear HS1
  clear hs
  go_upto_region 2 with fail
  have HS3 := Lib.hid (((HS2.out.add (g := w2.heap.size) (by simp) #[.int .i64 0, .int .i64 50, .int .i64 0, .int .i64 0, .int .i64 0, .int .i64 0, .int .i64 0] 27).add (g := w2.heap.size + 1) (by simp) #[.int .i64 1, .int .i64 30, .int .i64 0, .int .i64 0, .int .i64 0, .int .i64 0, .int .i64 0] 27).lit (L' := [(w2.heap.size, #[.int .i64 0, .int .i64 50, .int .i64 0, .int .i64 0, .int .i64 0, .int .i64 0, .int .i64 0], 27), (w2.heap.size + 1, #[.int .i64 1, .int .i64 30, .int .i64 0, .int .i64 0, .int .i64 0, .int .i64 0, .int .i64 0], 27)]) rfl)
  clear HS2
  generalize w2.heap.size + 1 = gb at *
  generalize w2.heap.size = ga at *
  generalize ((w2.alloc (.cells #[.int .i64 0, .int .i64 50, .int .i64 0, .int .i64 0, .int .i64 0, .int .i64 0, .int .i64 0] 27)).alloc (.cells #[.int .i64 1, .int .i64 30, .int .i64 0, .int .i64 0, .int .i64 0, .int .i64 0, .int .i64 0] 27)) = v3 at *
  go_wp2_with fail
  have hsk := HS3.out.skip (.cells #[.pointer (some ⟨ga, 0, none⟩), .pointer (some ⟨gb, 0, none⟩)] 37)
  have hbga := hsk.at_ 0 rfl
  have hgega := hsk.ge 0 rfl
  have hbgb := hsk.at_ 1 rfl
  have hgegb := hsk.ge 1 rfl
  have hne := hsk.ne (k := 0) (k' := 1) rfl rfl (by omega)
  simp only at hne
  have hlt1 := HS3.out.lt 0 rfl
  have hlt2 := HS3.out.lt 1 rfl
  have hM : PMem (v3.alloc (.cells #[.pointer (some ⟨ga, 0, none⟩), .pointer (some ⟨gb, 0, none⟩)] 37)) [some (ga, 0), some (gb, 0)] [some (⟨0, 50, 0, 0, 0, 0, 0⟩ : Nt), some (⟨1, 30, 0, 0, 0, 0, 0⟩ : Nt)] := by
    refine ⟨rfl, fun k z hz => ?_, fun k hk => ?_, fun k k' a a' ha ha' hk => ?_, fun z hz => ?_⟩
    · match k, hz with
      | 0, hz => obtain rfl := Option.some.inj (Option.some.inj hz); exact ⟨ga, 0, rfl, _, _, hbga, NoteAt.lit ..⟩
      | 1, hz => obtain rfl := Option.some.inj (Option.some.inj hz); exact ⟨gb, 0, rfl, _, _, hbgb, NoteAt.lit ..⟩
      | k + 2, hz => simp at hz
    · match k, hk with
      | 0, hk => cases hk
      | 1, hk => cases hk
      | k + 2, hk => simp at hk
    · left
      match k, k', ha, ha' with
      | 0, 0, ha, ha' => exact absurd rfl hk
      | 0, 1, ha, ha' => obtain rfl := Option.some.inj (Option.some.inj ha); obtain rfl := Option.some.inj (Option.some.inj ha'); exact hne
      | 1, 0, ha, ha' => obtain rfl := Option.some.inj (Option.some.inj ha); obtain rfl := Option.some.inj (Option.some.inj ha'); exact Ne.symm hne
      | 1, 1, ha, ha' => exact absurd rfl hk
      | k + 2, _, ha, _ => simp at ha
      | _, k' + 2, _, ha' => simp at ha'
    · simp only [List.mem_cons, List.not_mem_nil, or_false, Option.some.injEq, reduceCtorEq, false_or] at hz
      rcases hz with rfl | rfl <;> exact ⟨rfl, by decide, by decide, by decide, by decide, by decide, by decide, by decide⟩
  have hA : Aside (some ⟨v3.heap.size, 0, none⟩) [some (ga, 0), some (gb, 0)] := by
    intro k a ad ha had
    obtain rfl := Option.some.inj had
    match k, ha with
    | 0, ha => obtain rfl := Option.some.inj (Option.some.inj ha); simp only; omega
    | 1, ha => obtain rfl := Option.some.inj (Option.some.inj ha); simp only; omega
    | k + 2, ha => simp at ha
  have HMb := Lib.hid hM
  have HAb := Lib.hid hA
  have HSK := Lib.hid hsk
  have HBA := Lib.hid hbga
  have HBB := Lib.hid hbgb
  have HGE := Lib.hid (And.intro hgega hgegb)
  have HNE := Lib.hid (And.intro hne (And.intro hlt1 hlt2))
  clear hM hA hsk hbga hbgb hgega hgegb hne hlt1 hlt2
  refine (allot_calls 40 (some ⟨v3.heap.size, 0, none⟩) 2 2 [some (ga, 0), some (gb, 0)] [some (⟨0, 50, 0, 0, 0, 0, 0⟩ : Nt), some (⟨1, 30, 0, 0, 0, 0, 0⟩ : Nt)] _ (Src.new (size := 1) (m := 2) rfl rfl) HMb.out HAb.out (by omega) (by omega) (by omega)).mono ?_
  rintro e w4 ⟨q', rfl, hsh, hM', hs0, hK⟩
  have hst : st q' = ([40, 0], [10, 30]) := hsh.fn (by exact up1)
  have hd := congrArg Prod.snd hst
  have hd2 : q'.map od = [10, 30] := hd
  have hqga : q'[0]? = some (some (Nt.down (⟨0, 50, 0, 0, 0, 0, 0⟩ : Nt) 10)) := by have := hs0.get (k := 0) (z := (⟨0, 50, 0, 0, 0, 0, 0⟩ : Nt)) rfl; rw [hd2] at this; exact this
  have hBga := one_note hM' hK HBA.out rfl hqga rfl
  have hqgb : q'[1]? = some (some (Nt.down (⟨1, 30, 0, 0, 0, 0, 0⟩ : Nt) 30)) := by have := hs0.get (k := 1) (z := (⟨1, 30, 0, 0, 0, 0, 0⟩ : Nt)) rfl; rw [hd2] at this; exact this
  have hBgb := one_note hM' hK HBB.out rfl hqgb rfl
  rw [hd2]
  have hN := Sts.after HSK.out hK (by intro k a ha; match k, ha with | 0, ha => exact (by obtain rfl := Option.some.inj (Option.some.inj ha); exact HGE.out.1) | 1, ha => exact (by obtain rfl := Option.some.inj (Option.some.inj ha); exact HGE.out.2) | k + 2, ha => simp at ha) [(ga, #[.int .i64 0, .int .i64 50, .int .i64 0, .int .i64 0, .int .i64 0, .int .i64 0, .int .i64 10], 27), (gb, #[.int .i64 1, .int .i64 30, .int .i64 0, .int .i64 0, .int .i64 0, .int .i64 0, .int .i64 30], 27)] rfl (by
    intro x hx; simp only [List.mem_cons, List.not_mem_nil, or_false] at hx; rcases hx with rfl | rfl
    · exact hBga
    · exact hBgb)
  have HS5 := Lib.hid hN
  clear hN hBga hBgb hqga hqgb hd2 hd hst hK hs0 hM' hsh HMb HAb HSK HBA HBB HGE HNE
  clear HS3
  simp only [List.sum_cons, List.sum_nil]
  go_upto_region 3 with fail
  refine wp_region_sts HS5.out (by kernel_rfl) (by kernel_rfl) ?_
  have hne : Nonempty (Later w [(ga, #[.int .i64 0, .int .i64 50, .int .i64 0, .int .i64 0, .int .i64 0, .int .i64 0, .int .i64 10], 27), (gb, #[.int .i64 1, .int .i64 30, .int .i64 0, .int .i64 0, .int .i64 0, .int .i64 0, .int .i64 30], 27)]) := ⟨⟨_, HS5.out⟩⟩
  have q0_0 : ∀ p : Later w [(ga, #[.int .i64 0, .int .i64 50, .int .i64 0, .int .i64 0, .int .i64 0, .int .i64 0, .int .i64 10], 27), (gb, #[.int .i64 1, .int .i64 30, .int .i64 0, .int .i64 0, .int .i64 0, .int .i64 0, .int .i64 30], 27)], p.val.cell? ⟨ga, 0, none⟩ = some (.int .i64 0) := fun p => p.property.cell 0 0 rfl rfl
  have q0_1 : ∀ p : Later w [(ga, #[.int .i64 0, .int .i64 50, .int .i64 0, .int .i64 0, .int .i64 0, .int .i64 0, .int .i64 10], 27), (gb, #[.int .i64 1, .int .i64 30, .int .i64 0, .int .i64 0, .int .i64 0, .int .i64 0, .int .i64 30], 27)], p.val.cell? ⟨ga, 1, none⟩ = some (.int .i64 50) := fun p => p.property.cell 0 1 rfl rfl
  have q0_2 : ∀ p : Later w [(ga, #[.int .i64 0, .int .i64 50, .int .i64 0, .int .i64 0, .int .i64 0, .int .i64 0, .int .i64 10], 27), (gb, #[.int .i64 1, .int .i64 30, .int .i64 0, .int .i64 0, .int .i64 0, .int .i64 0, .int .i64 30], 27)], p.val.cell? ⟨ga, 2, none⟩ = some (.int .i64 0) := fun p => p.property.cell 0 2 rfl rfl
  have q0_3 : ∀ p : Later w [(ga, #[.int .i64 0, .int .i64 50, .int .i64 0, .int .i64 0, .int .i64 0, .int .i64 0, .int .i64 10], 27), (gb, #[.int .i64 1, .int .i64 30, .int .i64 0, .int .i64 0, .int .i64 0, .int .i64 0, .int .i64 30], 27)], p.val.cell? ⟨ga, 3, none⟩ = some (.int .i64 0) := fun p => p.property.cell 0 3 rfl rfl
  have q0_4 : ∀ p : Later w [(ga, #[.int .i64 0, .int .i64 50, .int .i64 0, .int .i64 0, .int .i64 0, .int .i64 0, .int .i64 10], 27), (gb, #[.int .i64 1, .int .i64 30, .int .i64 0, .int .i64 0, .int .i64 0, .int .i64 0, .int .i64 30], 27)], p.val.cell? ⟨ga, 4, none⟩ = some (.int .i64 0) := fun p => p.property.cell 0 4 rfl rfl
  have q0_5 : ∀ p : Later w [(ga, #[.int .i64 0, .int .i64 50, .int .i64 0, .int .i64 0, .int .i64 0, .int .i64 0, .int .i64 10], 27), (gb, #[.int .i64 1, .int .i64 30, .int .i64 0, .int .i64 0, .int .i64 0, .int .i64 0, .int .i64 30], 27)], p.val.cell? ⟨ga, 5, none⟩ = some (.int .i64 0) := fun p => p.property.cell 0 5 rfl rfl
  have q0_6 : ∀ p : Later w [(ga, #[.int .i64 0, .int .i64 50, .int .i64 0, .int .i64 0, .int .i64 0, .int .i64 0, .int .i64 10], 27), (gb, #[.int .i64 1, .int .i64 30, .int .i64 0, .int .i64 0, .int .i64 0, .int .i64 0, .int .i64 30], 27)], p.val.cell? ⟨ga, 6, none⟩ = some (.int .i64 10) := fun p => p.property.cell 0 6 rfl rfl
  have q1_0 : ∀ p : Later w [(ga, #[.int .i64 0, .int .i64 50, .int .i64 0, .int .i64 0, .int .i64 0, .int .i64 0, .int .i64 10], 27), (gb, #[.int .i64 1, .int .i64 30, .int .i64 0, .int .i64 0, .int .i64 0, .int .i64 0, .int .i64 30], 27)], p.val.cell? ⟨gb, 0, none⟩ = some (.int .i64 1) := fun p => p.property.cell 1 0 rfl rfl
  have q1_1 : ∀ p : Later w [(ga, #[.int .i64 0, .int .i64 50, .int .i64 0, .int .i64 0, .int .i64 0, .int .i64 0, .int .i64 10], 27), (gb, #[.int .i64 1, .int .i64 30, .int .i64 0, .int .i64 0, .int .i64 0, .int .i64 0, .int .i64 30], 27)], p.val.cell? ⟨gb, 1, none⟩ = some (.int .i64 30) := fun p => p.property.cell 1 1 rfl rfl
  have q1_2 : ∀ p : Later w [(ga, #[.int .i64 0, .int .i64 50, .int .i64 0, .int .i64 0, .int .i64 0, .int .i64 0, .int .i64 10], 27), (gb, #[.int .i64 1, .int .i64 30, .int .i64 0, .int .i64 0, .int .i64 0, .int .i64 0, .int .i64 30], 27)], p.val.cell? ⟨gb, 2, none⟩ = some (.int .i64 0) := fun p => p.property.cell 1 2 rfl rfl
  have q1_3 : ∀ p : Later w [(ga, #[.int .i64 0, .int .i64 50, .int .i64 0, .int .i64 0, .int .i64 0, .int .i64 0, .int .i64 10], 27), (gb, #[.int .i64 1, .int .i64 30, .int .i64 0, .int .i64 0, .int .i64 0, .int .i64 0, .int .i64 30], 27)], p.val.cell? ⟨gb, 3, none⟩ = some (.int .i64 0) := fun p => p.property.cell 1 3 rfl rfl
  have q1_4 : ∀ p : Later w [(ga, #[.int .i64 0, .int .i64 50, .int .i64 0, .int .i64 0, .int .i64 0, .int .i64 0, .int .i64 10], 27), (gb, #[.int .i64 1, .int .i64 30, .int .i64 0, .int .i64 0, .int .i64 0, .int .i64 0, .int .i64 30], 27)], p.val.cell? ⟨gb, 4, none⟩ = some (.int .i64 0) := fun p => p.property.cell 1 4 rfl rfl
  have q1_5 : ∀ p : Later w [(ga, #[.int .i64 0, .int .i64 50, .int .i64 0, .int .i64 0, .int .i64 0, .int .i64 0, .int .i64 10], 27), (gb, #[.int .i64 1, .int .i64 30, .int .i64 0, .int .i64 0, .int .i64 0, .int .i64 0, .int .i64 30], 27)], p.val.cell? ⟨gb, 5, none⟩ = some (.int .i64 0) := fun p => p.property.cell 1 5 rfl rfl
  have q1_6 : ∀ p : Later w [(ga, #[.int .i64 0, .int .i64 50, .int .i64 0, .int .i64 0, .int .i64 0, .int .i64 0, .int .i64 10], 27), (gb, #[.int .i64 1, .int .i64 30, .int .i64 0, .int .i64 0, .int .i64 0, .int .i64 0, .int .i64 30], 27)], p.val.cell? ⟨gb, 6, none⟩ = some (.int .i64 30) := fun p => p.property.cell 1 6 rfl rfl
  repeat (go_big_quiet_step (first | fail))
  clear hne q0_0 q0_1 q0_2 q0_3 q0_4 q0_5 q0_6 q1_0 q1_1 q1_2 q1_3 q1_4 q1_5 q1_6
  refine wpQuiet_nil ?_
  rintro w6 ⟨⟨_, hs⟩, rfl⟩
  have HS6 := Lib.hid hs
  clear hs HS5
  have c0_0 : w6.cell? ⟨ga, 0, none⟩ = some (.int .i64 0) := HS6.out.cell 0 0 rfl rfl
  have c0_1 : w6.cell? ⟨ga, 1, none⟩ = some (.int .i64 50) := HS6.out.cell 0 1 rfl rfl
  have c0_2 : w6.cell? ⟨ga, 2, none⟩ = some (.int .i64 0) := HS6.out.cell 0 2 rfl rfl
  have c0_3 : w6.cell? ⟨ga, 3, none⟩ = some (.int .i64 0) := HS6.out.cell 0 3 rfl rfl
  have c0_4 : w6.cell? ⟨ga, 4, none⟩ = some (.int .i64 0) := HS6.out.cell 0 4 rfl rfl
  have c0_5 : w6.cell? ⟨ga, 5, none⟩ = some (.int .i64 0) := HS6.out.cell 0 5 rfl rfl
  have c0_6 : w6.cell? ⟨ga, 6, none⟩ = some (.int .i64 10) := HS6.out.cell 0 6 rfl rfl
  have c1_0 : w6.cell? ⟨gb, 0, none⟩ = some (.int .i64 1) := HS6.out.cell 1 0 rfl rfl
  have c1_1 : w6.cell? ⟨gb, 1, none⟩ = some (.int .i64 30) := HS6.out.cell 1 1 rfl rfl
  have c1_2 : w6.cell? ⟨gb, 2, none⟩ = some (.int .i64 0) := HS6.out.cell 1 2 rfl rfl
  have c1_3 : w6.cell? ⟨gb, 3, none⟩ = some (.int .i64 0) := HS6.out.cell 1 3 rfl rfl
  have c1_4 : w6.cell? ⟨gb, 4, none⟩ = some (.int .i64 0) := HS6.out.cell 1 4 rfl rfl
  have c1_5 : w6.cell? ⟨gb, 5, none⟩ = some (.int .i64 0) := HS6.out.cell 1 5 rfl rfl
  have c1_6 : w6.cell? ⟨gb, 6, none⟩ = some (.int .i64 30) := HS6.out.cell 1 6 rfl rfl
  clear c0_0 c0_1 c0_2 c0_3 c0_4 c0_5 c0_6 c1_0 c1_1 c1_2 c1_3 c1_4 c1_5 c1_6
  go_upto_region 4 with fail
  go_wp2_with fail
  have hsk := HS6.out.skip (.cells #[.pointer none, .pointer (some ⟨ga, 0, none⟩), .pointer (some ⟨gb, 0, none⟩)] 37)
  have hbga := hsk.at_ 0 rfl
  have hgega := hsk.ge 0 rfl
  have hbgb := hsk.at_ 1 rfl
  have hgegb := hsk.ge 1 rfl
  have hne := hsk.ne (k := 0) (k' := 1) rfl rfl (by omega)
  simp only at hne
  have hlt1 := HS6.out.lt 0 rfl
  have hlt2 := HS6.out.lt 1 rfl
  have hM : PMem (w6.alloc (.cells #[.pointer none, .pointer (some ⟨ga, 0, none⟩), .pointer (some ⟨gb, 0, none⟩)] 37)) [none, some (ga, 0), some (gb, 0)] [none, some (⟨0, 50, 0, 0, 0, 0, 10⟩ : Nt), some (⟨1, 30, 0, 0, 0, 0, 30⟩ : Nt)] := by
    refine ⟨rfl, fun k z hz => ?_, fun k hk => ?_, fun k k' a a' ha ha' hk => ?_, fun z hz => ?_⟩
    · match k, hz with
      | 0, hz => cases hz
      | 1, hz => obtain rfl := Option.some.inj (Option.some.inj hz); exact ⟨ga, 0, rfl, _, _, hbga, NoteAt.lit ..⟩
      | 2, hz => obtain rfl := Option.some.inj (Option.some.inj hz); exact ⟨gb, 0, rfl, _, _, hbgb, NoteAt.lit ..⟩
      | k + 3, hz => simp at hz
    · match k, hk with
      | 0, hk => rfl
      | 1, hk => cases hk
      | 2, hk => cases hk
      | k + 3, hk => simp at hk
    · left
      match k, k', ha, ha' with
      | 0, 0, ha, ha' => cases ha
      | 0, 1, ha, ha' => cases ha
      | 0, 2, ha, ha' => cases ha
      | 1, 0, ha, ha' => cases ha'
      | 1, 1, ha, ha' => exact absurd rfl hk
      | 1, 2, ha, ha' => obtain rfl := Option.some.inj (Option.some.inj ha); obtain rfl := Option.some.inj (Option.some.inj ha'); exact hne
      | 2, 0, ha, ha' => cases ha'
      | 2, 1, ha, ha' => obtain rfl := Option.some.inj (Option.some.inj ha); obtain rfl := Option.some.inj (Option.some.inj ha'); exact Ne.symm hne
      | 2, 2, ha, ha' => exact absurd rfl hk
      | k + 3, _, ha, _ => simp at ha
      | _, k' + 3, _, ha' => simp at ha'
    · simp only [List.mem_cons, List.not_mem_nil, or_false, Option.some.injEq, reduceCtorEq, false_or] at hz
      rcases hz with rfl | rfl <;> exact ⟨rfl, by decide, by decide, by decide, by decide, by decide, by decide, by decide⟩
  have hA : Aside (some ⟨w6.heap.size, 0, none⟩) [none, some (ga, 0), some (gb, 0)] := by
    intro k a ad ha had
    obtain rfl := Option.some.inj had
    match k, ha with
    | 0, ha => cases ha
    | 1, ha => obtain rfl := Option.some.inj (Option.some.inj ha); simp only; omega
    | 2, ha => obtain rfl := Option.some.inj (Option.some.inj ha); simp only; omega
    | k + 3, ha => simp at ha
  have HMb := Lib.hid hM
  have HAb := Lib.hid hA
  have HSK := Lib.hid hsk
  have HBA := Lib.hid hbga
  have HBB := Lib.hid hbgb
  have HGE := Lib.hid (And.intro hgega hgegb)
  have HNE := Lib.hid (And.intro hne (And.intro hlt1 hlt2))
  clear hM hA hsk hbga hbgb hgega hgegb hne hlt1 hlt2
  refine (allot_calls 35 (some ⟨w6.heap.size, 0, none⟩) 3 3 [none, some (ga, 0), some (gb, 0)] [none, some (⟨0, 50, 0, 0, 0, 0, 10⟩ : Nt), some (⟨1, 30, 0, 0, 0, 0, 30⟩ : Nt)] _ (Src.new (size := 1) (m := 3) rfl rfl) HMb.out HAb.out (by omega) (by omega) (by omega)).mono ?_
  rintro e w7 ⟨q', rfl, hsh, hM', hs0, hK⟩
  have hst : st q' = ([0, 45, 0], [0, 5, 30]) := hsh.fn (by exact up2)
  have hd := congrArg Prod.snd hst
  have hd2 : q'.map od = [0, 5, 30] := hd
  have hqga : q'[1]? = some (some (Nt.down (⟨0, 50, 0, 0, 0, 0, 10⟩ : Nt) 5)) := by have := hs0.get (k := 1) (z := (⟨0, 50, 0, 0, 0, 0, 10⟩ : Nt)) rfl; rw [hd2] at this; exact this
  have hBga := one_note hM' hK HBA.out rfl hqga rfl
  have hqgb : q'[2]? = some (some (Nt.down (⟨1, 30, 0, 0, 0, 0, 30⟩ : Nt) 30)) := by have := hs0.get (k := 2) (z := (⟨1, 30, 0, 0, 0, 0, 30⟩ : Nt)) rfl; rw [hd2] at this; exact this
  have hBgb := one_note hM' hK HBB.out rfl hqgb rfl
  rw [hd2]
  have hN := Sts.after HSK.out hK (by intro k a ha; match k, ha with | 0, ha => cases ha | 1, ha => exact (by obtain rfl := Option.some.inj (Option.some.inj ha); exact HGE.out.1) | 2, ha => exact (by obtain rfl := Option.some.inj (Option.some.inj ha); exact HGE.out.2) | k + 3, ha => simp at ha) [(ga, #[.int .i64 0, .int .i64 50, .int .i64 0, .int .i64 0, .int .i64 0, .int .i64 0, .int .i64 5], 27), (gb, #[.int .i64 1, .int .i64 30, .int .i64 0, .int .i64 0, .int .i64 0, .int .i64 0, .int .i64 30], 27)] rfl (by
    intro x hx; simp only [List.mem_cons, List.not_mem_nil, or_false] at hx; rcases hx with rfl | rfl
    · exact hBga
    · exact hBgb)
  have HS8 := Lib.hid hN
  clear hN hBga hBgb hqga hqgb hd2 hd hst hK hs0 hM' hsh HMb HAb HSK HBA HBB HGE HNE
  clear HS6
  have c0_0 : w7.cell? ⟨ga, 0, none⟩ = some (.int .i64 0) := HS8.out.cell 0 0 rfl rfl
  have c0_1 : w7.cell? ⟨ga, 1, none⟩ = some (.int .i64 50) := HS8.out.cell 0 1 rfl rfl
  have c0_2 : w7.cell? ⟨ga, 2, none⟩ = some (.int .i64 0) := HS8.out.cell 0 2 rfl rfl
  have c0_3 : w7.cell? ⟨ga, 3, none⟩ = some (.int .i64 0) := HS8.out.cell 0 3 rfl rfl
  have c0_4 : w7.cell? ⟨ga, 4, none⟩ = some (.int .i64 0) := HS8.out.cell 0 4 rfl rfl
  have c0_5 : w7.cell? ⟨ga, 5, none⟩ = some (.int .i64 0) := HS8.out.cell 0 5 rfl rfl
  have c0_6 : w7.cell? ⟨ga, 6, none⟩ = some (.int .i64 5) := HS8.out.cell 0 6 rfl rfl
  have c1_0 : w7.cell? ⟨gb, 0, none⟩ = some (.int .i64 1) := HS8.out.cell 1 0 rfl rfl
  have c1_1 : w7.cell? ⟨gb, 1, none⟩ = some (.int .i64 30) := HS8.out.cell 1 1 rfl rfl
  have c1_2 : w7.cell? ⟨gb, 2, none⟩ = some (.int .i64 0) := HS8.out.cell 1 2 rfl rfl
  have c1_3 : w7.cell? ⟨gb, 3, none⟩ = some (.int .i64 0) := HS8.out.cell 1 3 rfl rfl
  have c1_4 : w7.cell? ⟨gb, 4, none⟩ = some (.int .i64 0) := HS8.out.cell 1 4 rfl rfl
  have c1_5 : w7.cell? ⟨gb, 5, none⟩ = some (.int .i64 0) := HS8.out.cell 1 5 rfl rfl
  have c1_6 : w7.cell? ⟨gb, 6, none⟩ = some (.int .i64 30) := HS8.out.cell 1 6 rfl rfl
  simp only [List.sum_cons, List.sum_nil]
  go_wp2_with fail
  clear c0_0 c0_1 c0_2 c0_3 c0_4 c0_5 c0_6 c1_0 c1_1 c1_2 c1_3 c1_4 c1_5 c1_6
  refine (target_s 20 100 70 50 30 HS8.out (by omega) (by omega) (by omega) (by omega) (by omega) (by omega) (by omega) (by omega) (by decide)).mono ?_
  rintro e w9 ⟨rfl, hs⟩
  have HS9 := Lib.hid ((hs.lit rfl : Sts w [(ga, #[.int .i64 0, .int .i64 50, .int .i64 0, .int .i64 0, .int .i64 0, .int .i64 0, .int .i64 5], 27), (gb, #[.int .i64 1, .int .i64 30, .int .i64 0, .int .i64 0, .int .i64 0, .int .i64 0, .int .i64 30], 27)] w9))
  clear HS8
  clear hs
  go_wp2
  go_ret
  exact ⟨rfl, HS9.out.bel⟩
theorem lossRuns_s {w0 W : World} {L : List Ent} (hS : Sts w0 L W) : Calls Try.prog 6 #[] W (Goes (.bool true) w0 L) := (lossRuns_calls W).mono fun _ _ h => ⟨h.1, hS.below h.2⟩
end Go.Proofs.Ytllbpjaiplnbnaa

import Derived.Test.YtllbpjaiplnbnaaLossNotes
import Derived.Test.YtllbpjaiplnbnaaLossPure
namespace Go.Proofs.Ytllbpjaiplnbnaa
open Go.RowKit
set_option linter.unusedVariables false
set_option linter.unusedSimpArgs false
/-- Blocks that a call has made beside those that are kept an eye on. -/
theorem Sts.join {w0 W W' : World} {R : List Ent} (A B : List Ent) (hS : Sts w0 (A ++ B) W) (h : Sts W R W') : Sts w0 (A ++ (R ++ B)) W' := by
  have hS' : Sts w0 (A ++ ([] ++ B)) W := hS
  have hin : ∀ x ∈ A ++ B, Blk W x.1 x.2.1 x.2.2 := fun x hx => ((sts_iff.1 hS).1 x hx).1
  have h' := sts_iff.1 h
  refine hS'.mid (bel_then hS.bel h.bel hS.size) (fun x hx => (hin x hx).below h.bel) (fun x hx => ⟨(h'.1 x hx).1, Nat.le_trans hS.size (h'.1 x hx).2⟩) h'.2.1 fun x hx y hy => ?_
  have h1 := (hin x hx).lt
  have h2 := (h'.1 y hy).2
  omega
/-! ### A row of notes, the pointers to them, and Allot over them -/
/-- The notes zs lie in the block of R, one behind the other. -/
structure NRow (R : List Ent) (a : Option Addr) (m g : Nat) (zs : List Nt) : Prop where
  len : zs.length = m
  row : (m = 0 ∧ R = []) ∨ ∃ cs, a = some ⟨g, 0, none⟩ ∧ R = [(g, cs, 27)] ∧ ∀ k z, zs[k]? = some z → NoteAt cs (k * 7) z.r z.og z.rt z.i z.j z.sh z.dn
theorem NRow.of {R : List Ent} {a : Option Addr} {m cap : Nat} {zs : List Nt} (h : Row R 27 7 a m cap (zs.flatMap Nt.c)) : ∃ g, NRow R a m g zs := by
  have hl : zs.length = m := by have := h.1; rw [flat_length Nt.c 7 Nt.c_length] at this; omega
  obtain ⟨_, h2, _, h4⟩ := h
  rcases h4 with ⟨_, hR, hc⟩ | ⟨g, cur, ha, hR, hs, ht⟩
  · exact ⟨0, hl, .inl ⟨by omega, hR⟩⟩
  · refine ⟨g, hl, .inr ⟨cur, ha, hR, fun k z hz => ?_⟩⟩
    have hk : k < zs.length := (List.getElem?_eq_some_iff.1 hz).1
    have get : ∀ j u, z.c[j]? = some u → cur[k * 7 + j]? = some u := by
      intro j u hu
      have hj : j < 7 := (List.getElem?_eq_some_iff.1 hu).1
      have h5 : (zs.flatMap Nt.c)[k * 7 + j]? = some u := by rw [flat_get Nt.c 7 Nt.c_length zs k j z hz hj]; exact hu
      rw [← ht, List.getElem?_take] at h5
      split at h5
      · rw [← Array.getElem?_toList]; exact h5
      · cases h5
    exact ⟨get 0 _ rfl, get 1 _ rfl, get 2 _ rfl, get 3 _ rfl, get 4 _ rfl, get 5 _ rfl, get 6 _ rfl⟩
def ptrs (g m : Nat) : List (Option (Nat × Nat)) := (List.range m).map fun k => some (g, k * 7)
theorem ptrs_get {g m k : Nat} {a : Nat × Nat} (h : (ptrs g m)[k]? = some (some a)) : k < m ∧ a = (g, k * 7) := by
  unfold ptrs at h
  rw [List.getElem?_map] at h
  by_cases hk : k < m
  · rw [List.getElem?_range hk] at h
    exact ⟨hk, (Option.some.inj (Option.some.inj h)).symm⟩
  · rw [List.getElem?_eq_none (by simp; omega)] at h; cases h
theorem ptrs_at {g m k : Nat} (h : k < m) : (ptrs g m)[k]? = some (some (g, k * 7)) := by unfold ptrs; rw [List.getElem?_map, List.getElem?_range h]; rfl
theorem ptrs_next (g m : Nat) : ptrs g (m + 1) = ptrs g m ++ [some (g, m * 7)] := by unfold ptrs; rw [List.range_succ, List.map_append]; rfl
theorem NRow.pmem {w0 W : World} {A B R : List Ent} {a : Option Addr} {m g : Nat} {zs : List Nt} (h : NRow R a m g zs) (hS : Sts w0 (A ++ (R ++ B)) W) (hl : ∀ z ∈ zs, Lossy z) : PMem W (ptrs g m) (zs.map some) := by
  refine ⟨by simp [ptrs, h.len], fun k z hz => ?_, fun k hk => ?_, fun k k' x x' h1 h2 hne => ?_, fun z hz => ?_⟩
  · rw [List.getElem?_map] at hz
    obtain ⟨y, hy, e⟩ := Option.map_eq_some_iff.1 hz
    obtain rfl := Option.some.inj e
    have hk : k < m := by rw [← h.len]; exact (List.getElem?_eq_some_iff.1 hy).1
    rcases h.row with ⟨h0, _⟩ | ⟨cs, _, rfl, hc⟩
    · omega
    · exact ⟨g, k * 7, ptrs_at hk, cs, 27, ((sts_iff.1 hS).1 (g, cs, 27) (by simp)).1, hc k y hy⟩
  · rw [List.getElem?_map] at hk
    obtain ⟨y, hy, e⟩ := Option.map_eq_some_iff.1 hk
    cases e
  · obtain ⟨_, rfl⟩ := ptrs_get h1
    obtain ⟨_, rfl⟩ := ptrs_get h2
    right
    simp only
    omega
  · obtain ⟨y, hy, e⟩ := List.mem_map.1 hz
    obtain rfl := Option.some.inj e
    exact hl y hy
/-- Nothing but Downs differs. -/
def SameN (zs zs' : List Nt) : Prop := zs'.length = zs.length ∧ ∀ (k : Nat) (z : Nt), zs[k]? = some z → ∃ d, zs'[k]? = some (z.down d)
theorem SameN.refl (zs : List Nt) : SameN zs zs := ⟨rfl, fun k z h => ⟨z.dn, h⟩⟩
theorem SameN.trans {a b c : List Nt} (h : SameN a b) (h' : SameN b c) : SameN a c := ⟨h'.1.trans h.1, fun k z hz => by
  obtain ⟨d, hd⟩ := h.2 k z hz
  obtain ⟨d', hd'⟩ := h'.2 k _ hd
  exact ⟨d', hd'⟩⟩
def stN (zs : List Nt) : List Int × List Int := (zs.map Nt.bal, zs.map Nt.dn)
theorem st_some (zs : List Nt) : st (zs.map some) = stN zs := by unfold st stN; rw [List.map_map, List.map_map]; rfl
theorem orr_some (zs : List Nt) : (zs.map some).map orr = zs.map Nt.r := by rw [List.map_map]; rfl
theorem same0_some {zs : List Nt} {qs : List (Option Nt)} (h : Same0 (zs.map some) qs) : ∃ zs', qs = zs'.map some ∧ SameN zs zs' := by
  have hlen : qs.length = zs.length := by have := h.1; simpa using this
  have each : ∀ k, k < zs.length → ∃ z, zs[k]? = some z ∧ ∃ d, qs[k]? = some (some (z.down d)) := fun k hk => by
    have hz : zs[k]? = some zs[k] := List.getElem?_eq_getElem hk
    exact ⟨_, hz, (h.2 k).2 zs[k] (by rw [List.getElem?_map, hz]; rfl)⟩
  refine ⟨qs.map fun q => q.getD ⟨0, 0, 0, 0, 0, 0, 0⟩, ?_, by simp [hlen], fun k z hz => ?_⟩
  · rw [List.map_map]
    apply List.ext_getElem? 
    intro k
    by_cases hk : k < zs.length
    · obtain ⟨z, _, d, hd⟩ := each k hk
      rw [List.getElem?_map, hd]; rfl
    · rw [List.getElem?_eq_none (by omega), List.getElem?_eq_none (by simp; omega)]
  · have hk := (List.getElem?_eq_some_iff.1 hz).1
    obtain ⟨z', hz', d, hd⟩ := each k hk
    rw [hz] at hz'
    obtain rfl := Option.some.inj hz'
    exact ⟨d, by rw [List.getElem?_map, hd]; rfl⟩
theorem allot_row {w0 W : World} {A B R RP : List Ent} {a aP : Option Addr} {m g capP : Nat} {zs : List Nt} (t : Int) (hN : NRow R a m g zs) (hS : Sts w0 (A ++ (R ++ B)) W) (hl : ∀ z ∈ zs, Lossy z) (hm : m ≤ 64)
    (hP : Row RP 37 1 aP m capP ((ptrs g m).map ptrV)) (hPB : ∃ A' B', A ++ B = A' ++ (RP ++ B')) (ht0 : -4611686018427387904 ≤ t) (ht1 : t ≤ 4611686018427387904) :
    Calls Try.prog 22 #[.int .i64 t, .slice aP m capP] W fun e w' => ∃ zs' R', e = .returned (.int .i64 (zs'.map Nt.dn).sum) ∧ Shared (max t 0) (zs.map Nt.r) m (stN zs) (stN zs') ∧ NRow R' a m g zs' ∧ Sts w0 (A ++ (R' ++ B)) w' ∧ SameN zs zs' ∧ (∀ z ∈ zs', Lossy z) := by
  have hM := hN.pmem hS hl
  obtain ⟨A', B', hAB⟩ := hPB
  have hSP : Sts w0 (A' ++ (RP ++ B')) W := (hS.sub (L' := A ++ B) (by simp)).lit hAB
  have hmem : ∀ x ∈ RP, x ∈ A ++ B := fun x hx => by rw [hAB]; simp [hx]
  have hA : Aside aP (ptrs g m) := by
    intro k x ad hx ha
    obtain ⟨hk, rfl⟩ := ptrs_get hx
    rcases hN.row with ⟨h0, _⟩ | ⟨cs, _, rfl, _⟩
    · omega
    · obtain ⟨_, h2, _, h4⟩ := hP
      rcases h4 with ⟨_, _, hc⟩ | ⟨gp, cur, h5, rfl, _, _⟩
      · omega
      · rw [h5] at ha
        obtain rfl := Option.some.inj ha
        have := hS.mem_ne (hmem (gp, cur, 37) (by simp)) (y := (g, cs, 27)) (by simp)
        exact fun e => this e.symm
  refine (allot_calls t aP m capP (ptrs g m) (zs.map some) W (by have := hP.src A' B' hSP; exact this) hM hA hm ht0 ht1).mono ?_
  rintro e w' ⟨qs', rfl, hsh, hM', hs0, hK⟩
  obtain ⟨zs', rfl, hsn⟩ := same0_some hs0
  rw [orr_some, st_some, st_some] at hsh
  have hod : (zs'.map some).map od = zs'.map Nt.dn := by rw [List.map_map]; rfl
  have hlen' : zs'.length = m := hsn.1.trans hN.len
  have hl' : ∀ z ∈ zs', Lossy z := fun z hz => hM'.lossy z (List.mem_map.2 ⟨z, hz, rfl⟩)
  rw [hod]
  rcases hN.row with ⟨rfl, rfl⟩ | ⟨cs, ha, rfl, _⟩
  · refine ⟨zs', [], rfl, hsh, ⟨hlen', .inl ⟨rfl, rfl⟩⟩, ?_, hsn, hl'⟩
    exact hS.below ⟨hK.os, hK.tape, hK.output, hK.size, fun k hk => hK.block k hk (fun i x h => by have := (ptrs_get h).1; omega)⟩
  · have hB : Blk W g cs 27 := ((sts_iff.1 hS).1 (g, cs, 27) (by simp)).1
    have hge : w0.heap.size ≤ g := ((sts_iff.1 hS).1 (g, cs, 27) (by simp)).2
    obtain ⟨cs', hB', _⟩ := hK.cells g cs _ hB
    refine ⟨zs', [(g, cs', 27)], rfl, hsh, ⟨hlen', .inr ⟨cs', ha, rfl, fun k z hz => ?_⟩⟩, ?_, hsn, hl'⟩
    · obtain ⟨g1, o1, hp, c1, t1, hb1, hn1⟩ := hM'.at_ k z (by rw [List.getElem?_map, hz]; rfl)
      have e1 := (ptrs_get hp).2
      simp only [Prod.mk.injEq] at e1
      obtain ⟨rfl, rfl⟩ := e1
      have e2 := hB'.symm.trans hb1
      simp only [Option.some.injEq, Obj.cells.injEq] at e2
      obtain ⟨rfl, _⟩ := e2
      exact hn1
    · refine hS.after hK (fun k x hx => by obtain ⟨_, rfl⟩ := ptrs_get hx; exact hge) _ (by simp) fun x hx => ?_
      rcases List.mem_append.1 hx with hx | hx
      · exact hK.blk ((sts_iff.1 hS).1 x (List.mem_append_left _ hx)).1 (fun k y hy => by
          obtain ⟨_, rfl⟩ := ptrs_get hy
          exact fun e => hS.mem_ne (x := x) (List.mem_append_left _ hx) (y := (g, cs, 27)) (by simp) e.symm)
      · rcases List.mem_append.1 hx with hx | hx
        · obtain rfl : x = (g, cs', 27) := by simpa using hx
          exact hB'
        · exact hK.blk ((sts_iff.1 hS).1 x (List.mem_append_right _ (List.mem_append_right _ hx))).1 (fun k y hy => by
            obtain ⟨_, rfl⟩ := ptrs_get hy
            exact fun e => hS.mem_ne (x := x) (List.mem_append_right _ hx) (y := (g, cs, 27)) (by simp) e.symm)
theorem stN_ok {zs : List Nt} {m : Nat} (h : zs.length = m) (hl : ∀ z ∈ zs, Lossy z) : Ok m (stN zs) := by
  have get : ∀ (f : Nt → Int) i, i < m → (zs.map f).getD i 0 = f (zs[i]?.getD ⟨0, 0, 0, 0, 0, 0, 0⟩) ∧ (zs[i]?.getD ⟨0, 0, 0, 0, 0, 0, 0⟩) ∈ zs := by
    intro f i hi
    have hz : zs[i]? = some (zs[i]'(by omega)) := List.getElem?_eq_getElem (by omega)
    rw [getD_map f zs i _ hz, hz]
    exact ⟨rfl, List.getElem_mem _⟩
  refine ⟨by simp [stN, h], by simp [stN, h], fun i hi => ?_, fun i hi => ?_⟩
  · obtain ⟨e, hm⟩ := get Nt.bal i hi
    show 0 ≤ (zs.map Nt.bal).getD i 0
    rw [e]; exact (hl _ hm).bal
  · obtain ⟨e, hm⟩ := get Nt.dn i hi
    show 0 ≤ (zs.map Nt.dn).getD i 0
    rw [e]; exact (hl _ hm).dn0
/-- Restored: its Down is nought. -/
theorem restore_row {w0 W : World} {A B R : List Ent} {a : Option Addr} {m g k : Nat} {zs : List Nt} {z : Nt} (hN : NRow R a m g zs) (hS : Sts w0 (A ++ (R ++ B)) W) (hz : zs[k]? = some z) (hl : Lossy z) :
    Calls Try.prog 16 #[.pointer (some ⟨g, k * 7, none⟩), .int .i64 1099511627776] W fun e w' => (∃ v, e = .returned (.int .i64 v)) ∧ ∃ R', NRow R' a m g (zs.set k (z.down 0)) ∧ Sts w0 (A ++ (R' ++ B)) w' := by
  have hk : k < zs.length := (List.getElem?_eq_some_iff.1 hz).1
  rcases hN.row with ⟨h0, _⟩ | ⟨cs, ha, rfl, hc⟩
  · have := hN.len; omega
  · have hkk : (A ++ ([(g, cs, 27)] ++ B))[A.length]? = some (g, cs, 27) := by simp
    have hle := hl.le
    have hd0 := hl.dn0
    refine (restore_calls g (k * 7) cs _ z.r z.og z.rt z.i z.j z.sh z.dn 1099511627776 W (hS.at_ A.length hkk) (hc k z hz) hl.fair (by omega) (by omega)).mono ?_
    rintro e w' ⟨rfl, hb, hB⟩
    have hw : z.dn - wi 1099511627776 z.dn = 0 := by unfold wi; omega
    rw [hw] at hb
    refine ⟨⟨_, rfl⟩, [(g, cs.setIfInBounds (k * 7 + 6) (.int .i64 0), 27)], ⟨by simp [hN.len], .inr ⟨_, ha, rfl, fun j y hy => ?_⟩⟩, (hS.upd A.length hkk hb hB).lit (by simp)⟩
    by_cases hjk : j = k
    · subst hjk
      rw [List.getElem?_set_self hk] at hy
      obtain rfl := Option.some.inj hy
      have hA := hc j z hz
      exact ⟨setIf_get _ _ _ _ _ hA.c0 (by omega), setIf_get _ _ _ _ _ hA.c1 (by omega), setIf_get _ _ _ _ _ hA.c2 (by omega), setIf_get _ _ _ _ _ hA.c3 (by omega), setIf_get _ _ _ _ _ hA.c4 (by omega), setIf_get _ _ _ _ _ hA.c5 (by omega), setIf_self _ _ _ _ hA.c6⟩
    · rw [List.getElem?_set_ne (Ne.symm hjk)] at hy
      have hA := hc j y hy
      exact ⟨setIf_get _ _ _ _ _ hA.c0 (by omega), setIf_get _ _ _ _ _ hA.c1 (by omega), setIf_get _ _ _ _ _ hA.c2 (by omega), setIf_get _ _ _ _ _ hA.c3 (by omega), setIf_get _ _ _ _ _ hA.c4 (by omega), setIf_get _ _ _ _ _ hA.c5 (by omega), setIf_get _ _ _ _ _ hA.c6 (by omega)⟩
/-- The first k of them restored. -/
def dz (zs : List Nt) (k : Nat) : List Nt := (zs.take k).map (fun z => z.down 0) ++ zs.drop k
theorem dz_zero (zs : List Nt) : dz zs 0 = zs := by unfold dz; simp
theorem dz_len (zs : List Nt) (k : Nat) : (dz zs k).length = zs.length := by unfold dz; simp; omega
theorem dz_get {zs : List Nt} {k : Nat} {z : Nt} (h : zs[k]? = some z) : (dz zs k)[k]? = some z := by
  have hk := (List.getElem?_eq_some_iff.1 h).1
  unfold dz
  rw [List.getElem?_append_right (by simp; omega)]
  simp only [List.length_map, List.length_take, List.getElem?_drop]
  rw [show k + (k - min k zs.length) = k by omega]; exact h
theorem dz_next {zs : List Nt} {k : Nat} {z : Nt} (h : zs[k]? = some z) : (dz zs k).set k (z.down 0) = dz zs (k + 1) := by
  have hk := (List.getElem?_eq_some_iff.1 h).1
  unfold dz
  rw [List.set_append_right _ _ (by simp; omega)]
  simp only [List.length_map, List.length_take]
  rw [show k - min k zs.length = 0 by omega]
  have hd : zs.drop k = z :: zs.drop (k + 1) := by
    rw [List.drop_eq_getElem_cons hk]; congr 1; exact (List.getElem?_eq_some_iff.1 h).2
  rw [hd, List.set_cons_zero, List.take_add_one, h]
  simp
theorem dz_full {zs : List Nt} {m : Nat} (h : zs.length = m) : dz zs m = zs.map (fun z => z.down 0) := by
  unfold dz; rw [List.take_of_length_le (by omega), List.drop_of_length_le (by omega)]; simp
/-- A note's cells. -/
theorem NRow.cells {w0 W : World} {A B R : List Ent} {a : Option Addr} {m g k : Nat} {zs : List Nt} {z : Nt} (h : NRow R a m g zs) (hS : Sts w0 (A ++ (R ++ B)) W) (hz : zs[k]? = some z) : a = some ⟨g, 0, none⟩ ∧
    W.cell? ⟨g, k * 7, none⟩ = some (.int .i64 z.r) ∧ W.cell? ⟨g, k * 7 + 1, none⟩ = some (.int .i64 z.og) ∧ W.cell? ⟨g, k * 7 + 2, none⟩ = some (.int .i64 z.rt) ∧ W.cell? ⟨g, k * 7 + 3, none⟩ = some (.int .i64 z.i) ∧ W.cell? ⟨g, k * 7 + 4, none⟩ = some (.int .i64 z.j) ∧ W.cell? ⟨g, k * 7 + 5, none⟩ = some (.int .i64 z.sh) ∧ W.cell? ⟨g, k * 7 + 6, none⟩ = some (.int .i64 z.dn) := by
  have hk : k < zs.length := (List.getElem?_eq_some_iff.1 hz).1
  rcases h.row with ⟨h0, _⟩ | ⟨cs, ha, rfl, hc⟩
  · have := h.len; omega
  · have hb := ((sts_iff.1 hS).1 (g, cs, 27) (by simp)).1
    have hA := hc k z hz
    exact ⟨ha, (hb.cell _).trans hA.c0, (hb.cell _).trans hA.c1, (hb.cell _).trans hA.c2, (hb.cell _).trans hA.c3, (hb.cell _).trans hA.c4, (hb.cell _).trans hA.c5, (hb.cell _).trans hA.c6⟩
theorem flat_split (zs : List Nt) (j : Nat) (u : Value) (h : (zs.flatMap Nt.c)[j]? = some u) : ∃ k z r, j = k * 7 + r ∧ r < 7 ∧ zs[k]? = some z ∧ z.c[r]? = some u := by
  have hj : j < zs.length * 7 := by have := (List.getElem?_eq_some_iff.1 h).1; rw [flat_length Nt.c 7 Nt.c_length] at this; exact this
  have hk : j / 7 < zs.length := by omega
  have hz : zs[j / 7]? = some zs[j / 7] := List.getElem?_eq_getElem hk
  refine ⟨j / 7, _, j % 7, by omega, by omega, hz, ?_⟩
  rw [← flat_get Nt.c 7 Nt.c_length zs (j / 7) (j % 7) _ hz (by omega), show j / 7 * 7 + j % 7 = j by omega]; exact h
theorem NRow.src {w0 W : World} {A B R : List Ent} {a : Option Addr} {m g : Nat} {zs : List Nt} (h : NRow R a m g zs) (hS : Sts w0 (A ++ (R ++ B)) W) : Src W a m 7 (zs.flatMap Nt.c) := by
  refine ⟨by rw [flat_length Nt.c 7 Nt.c_length, h.len], fun hm => ?_⟩
  rcases h.row with ⟨h0, _⟩ | ⟨cs, ha, rfl, hc⟩
  · omega
  · have hb := ((sts_iff.1 hS).1 (g, cs, 27) (by simp)).1
    refine ⟨_, ha, fun j u hu => ?_⟩
    obtain ⟨k, z, r, rfl, hr, hz, hu2⟩ := flat_split zs j u hu
    have e1 : (⟨g, 0, none⟩ : Addr).add (k * 7 + r) = ⟨g, k * 7 + r, none⟩ := by unfold Addr.add; split <;> simp_all
    rw [e1, hb.cell]
    have hA := hc k z hz
    match r, hr, hu2 with
    | 0, _, hu2 => rw [← hu2]; exact hA.c0
    | 1, _, hu2 => rw [← hu2]; exact hA.c1
    | 2, _, hu2 => rw [← hu2]; exact hA.c2
    | 3, _, hu2 => rw [← hu2]; exact hA.c3
    | 4, _, hu2 => rw [← hu2]; exact hA.c4
    | 5, _, hu2 => rw [← hu2]; exact hA.c5
    | 6, _, hu2 => rw [← hu2]; exact hA.c6
theorem emptyRow (g : Nat) (e : TypeId) (size : Nat) : Row [(g, #[], e)] e size (some ⟨g, 0, none⟩) 0 0 [] := ⟨by simp, Nat.le_refl _, by unfold maxLen; omega, .inr ⟨g, #[], rfl, rfl, by simp, by simp⟩⟩
theorem same_eq {zs a b : List Nt} (ha : SameN zs a) (hb : SameN zs b) (h : a.map Nt.dn = b.map Nt.dn) : a = b := by
  apply List.ext_getElem?
  intro k
  by_cases hk : k < zs.length
  · obtain ⟨d, hd⟩ := ha.2 k _ (List.getElem?_eq_getElem hk)
    obtain ⟨d', hd'⟩ := hb.2 k _ (List.getElem?_eq_getElem hk)
    have h2 : (a.map Nt.dn)[k]? = (b.map Nt.dn)[k]? := by rw [h]
    rw [List.getElem?_map, List.getElem?_map, hd, hd'] at h2
    have h3 : d = d' := by simpa [Nt.down] using h2
    rw [hd, hd', h3]
  · rw [List.getElem?_eq_none (by have := ha.1; omega), List.getElem?_eq_none (by have := hb.1; omega)]
theorem same_ranks {zs a : List Nt} (h : SameN zs a) : a.map Nt.r = zs.map Nt.r := by
  apply List.ext_getElem?
  intro k
  by_cases hk : k < zs.length
  · obtain ⟨d, hd⟩ := h.2 k _ (List.getElem?_eq_getElem hk)
    rw [List.getElem?_map, List.getElem?_map, hd, List.getElem?_eq_getElem hk]; rfl
  · rw [List.getElem?_eq_none (by have := h.1; simp; omega), List.getElem?_eq_none (by simp; omega)]
/-- All of them restored. -/
def zd (zs : List Nt) : List Nt := zs.map fun z => z.down 0
theorem zd_len (zs : List Nt) : (zd zs).length = zs.length := by simp [zd]
theorem zd_lossy {zs : List Nt} (h : ∀ z ∈ zs, Made z) : ∀ z ∈ zd zs, Lossy z := by
  intro z hz
  obtain ⟨y, hy, rfl⟩ := List.mem_map.1 hz
  have hl := (h y hy).lossy
  exact hl.down (by omega) (by have := hl.dn0; have := hl.bal; omega)
theorem zd_dn (zs : List Nt) : (zd zs).map Nt.dn = List.replicate zs.length 0 := by
  unfold zd; rw [List.map_map]
  apply List.ext_getElem?
  intro k
  by_cases hk : k < zs.length
  · rw [List.getElem?_map, List.getElem?_eq_getElem hk, List.getElem?_replicate, if_pos hk]; rfl
  · rw [List.getElem?_eq_none (by simp; omega), List.getElem?_eq_none (by simp; omega)]
theorem zd_sum (zs : List Nt) : ((zd zs).map Nt.dn).sum = 0 := by rw [zd_dn]; simp
theorem zd_bal {zs : List Nt} (h : ∀ z ∈ zs, Made z) : ((zd zs).map Nt.bal).sum = (zs.map fun z => z.og - z.i).sum := by
  unfold zd; rw [List.map_map]; congr 1
  apply List.map_congr_left
  intro z hz
  have := (h z hz).j
  show z.og - (z.i - z.j) - 0 = z.og - z.i
  omega
theorem zd_filled (rs : List Int) (n : Nat) (zs : List Nt) : Filled rs n (stN (zd zs)) := by
  intro i k hi hk _ h
  unfold stN at h
  rw [zd_dn] at h
  simp [List.getD_eq_getElem?_getD, List.getElem?_replicate] at h
  split at h <;> simp at h
end Go.Proofs.Ytllbpjaiplnbnaa

import Derived.Test.YtefidbfhcpcgjaaFrameRuns
import Derived.Laws.CopyOwn
namespace Go.Proofs.Ytefidbfhcpcgjaa
open Go.RowKit
set_option linter.unusedVariables false
set_option linter.unusedSimpArgs false
theorem ZB_arr (n : Nat) : ZB n = (bs (List.replicate n 0)).toArray := by rw [← ZB_list]
def roomL (l : List Int) (m : Int) (k : Nat) : List Int := l ++ (List.replicate k m ++ List.replicate (80 - k) 0)
theorem roomL_set (l : List Int) (m : Int) (k : Nat) (hk : k < 80) : ((bs (roomL l m k)).toArray).setIfInBounds (l.length + k) (.int .u8 m) = (bs (roomL l m (k + 1))).toArray := by
  rw [List.setIfInBounds_toArray]
  congr 1
  have h1 : (roomL l m k).set (l.length + k) m = roomL l m (k + 1) := by
    unfold roomL
    rw [List.set_append_right _ _ (by omega), Nat.add_sub_cancel_left, List.set_append_right _ _ (by simp), List.length_replicate, Nat.sub_self]
    congr 1
    rw [show 80 - k = (80 - (k + 1)) + 1 by omega, List.replicate_succ, List.set_cons_zero, List.replicate_succ', List.append_assoc]
    rfl
  rw [← h1]; unfold bs; rw [List.map_set]
theorem roomL_length (l : List Int) (m : Int) (k : Nat) (hk : k ≤ 80) : (roomL l m k).length = l.length + 80 := by simp [roomL]; omega
theorem bs_at (l : List Int) {i : Nat} (h : i < l.length) : (bs l).toArray[i]? = some (.int .u8 (l.getD i 0)) := by
  rw [List.getElem?_toArray, bs, List.getElem?_map, List.getElem?_eq_getElem h, List.getD_eq_getElem?_getD, List.getElem?_eq_getElem h]; rfl
theorem room_blk {W : World} {g : Nat} {l : List Int} {t : TypeId} (h : Blk W g (bs l).toArray t) {n : Nat} (hn : l.length = n) (hm : n ≤ 1000000) : Row [(g, (bs l).toArray, t)] t 1 (some ⟨g, 0, none⟩) n n (bs l) :=
  ⟨by rw [bs_length]; omega, Nat.le_refl _, by unfold maxLen; omega, .inr ⟨g, _, rfl, rfl, by simp [bs]; omega, by rw [Nat.mul_one]; exact List.take_of_length_le (by simp [bs]; omega)⟩⟩
set_option maxHeartbeats 1000000 in
set_option maxRecDepth 100000 in
theorem roomy_calls (A : Option Addr) (n c : Nat) (l : List Int) (mark : Int) (w : World) (hs : Src w A n 1 (bs l)) (hn : n ≤ 900000) :
    Calls Try.prog 34 #[.slice A n c, .int .u8 mark] w (Made (bs (roomL l mark 80)) (n + 80) 5 1 w) := by
  obtain ⟨i0, hi, hz, hs1, hs2⟩ := info_parts byte_info
  have hl := hs.len
  have hmk := make_bytes (n + 80) (by omega)
  rw [ZB_arr] at hmk
  have hmk' : ∀ W : World, (Instr.makeSlice 23 (.int .i64 ((n : Int) + 80)) (.int .i64 ((n : Int) + 80))).run Try.prog W = .ok (.slice (some ⟨W.heap.size, 0, none⟩) (n + 80) (n + 80)) (W.alloc (.cells (bs (List.replicate (n + 80) 0)).toArray 5)) := fun W => by
    have := hmk W
    simpa using this
  have hsz : (Try.prog.info? 5).map (·.size) = some 1 := by rw [hi]; simp [hs1]
  have hpos : 0 < (bs l).length → (some (⟨w.heap.size, 0, none⟩ : Addr)) = some ⟨w.heap.size, 0, none⟩ ∧ ∃ ad, A = some ad ∧ ∀ j v, (bs l)[j]? = some v → (w.alloc (.cells (bs (List.replicate (n + 80) 0)).toArray 5)).cell? (ad.add j) = some v := by
    intro h
    refine ⟨rfl, ?_⟩
    have := (hs.alloc (.cells (bs (List.replicate (n + 80) 0)).toArray 5)).2 (by rw [bs_length, hl] at h; exact h)
    exact this
  have hsp : splice (bs (List.replicate (n + 80) 0)) 0 (bs l) = bs (roomL l mark 0) := by
    unfold splice roomL
    simp [bs, hl]
  have HPOS := Lib.hid hpos
  have HSP := Lib.hid hsp
  have HS := Lib.hid hs
  have HL := Lib.hid hl
  have hblk : Hid ((w.alloc (.cells (bs (List.replicate (n + 80) 0)).toArray 5)).heap[w.heap.size]? = some (.cells (bs (List.replicate (n + 80) 0)).toArray 5 (0, 0))) := Lib.hid (Blk.newAt (w := w) rfl (bs (List.replicate (n + 80) 0)).toArray 5)
  clear hpos hsp hs hl hmk
  generalize (bs (List.replicate (n + 80) 0)) = zs at *
  have hlen : Hid (0 + (bs l).length ≤ zs.length) := Lib.hid (by
    have h2 := congrArg List.length HSP.out
    simp only [splice, List.length_append, List.length_take, List.length_drop, bs_length, roomL, List.length_replicate, HL.out] at h2
    rw [bs_length, HL.out]; omega)
  go_enter Try.func34, Try.ntmps34
  go_wp2_with (with_reducible refine wpList_copy_splice rfl (.tmp 11) (.tmp 12) 23 23 rfl 5 Try.underlying23 hsz _ A (n + 80) (n + 80) n c rfl rfl w.heap.size 0 zs 5 hblk.out (bs l) (by rw [bs_length, HL.out]; exact (Nat.min_eq_left (by omega)).symm) HPOS.out hlen.out (bs_one _) w.heap.size w (bel_alloc (Below.refl _ _) _) (Nat.le_refl _) ?_; intro w1 H1 hb1)
  have H2 : Hid (Blk w1 w.heap.size (bs (roomL l mark 0)).toArray 5) := Lib.hid (by have := H1.out; rw [HSP.out] at this; exact this)
  have HB := Lib.hid hb1
  clear H1 hb1 hblk HPOS hlen HSP hmk'
  obtain ⟨g, hg⟩ : ∃ g, w.heap.size = g := ⟨_, rfl⟩
  have HG : Hid (w.heap.size ≤ g) := Lib.hid (by omega)
  have HG2 := Lib.hid hg.symm
  rw [hg] at H2 HB ⊢
  clear hg
  go_loopw [6] (fun i wr => ∃ (k : Nat), k ≤ 80 ∧ i = .int .i64 ((n + k : Nat) : Int) ∧ Hid (Blk wr g (bs (roomL l mark k)).toArray 5) ∧ Hid (Below g w wr)) (fun i _ => n + 80 - (intOf i).toNat)
  case atStart => exact ⟨0, by omega, by simp, H2, HB⟩
  case round =>
    clear H2 HB
    obtain ⟨k, hk, rfl, H2, HB⟩ := hrel
    by_cases hlt : k < 80
    · have hcell : wr.cell? ⟨g, n + k, none⟩ = some (.int .u8 ((roomL l mark k).getD (n + k) 0)) := (H2.out.cell (n + k)).trans (bs_at _ (by rw [roomL_length _ _ _ hk, HL.out]; omega))
      have hfr := H2.out.frozen (n + k)
      have hset := roomL_set l mark k hlt
      rw [HL.out] at hset
      have HSET := Lib.hid hset
      clear hset
      go_wp2
      go_roundw
      case rel => exact ⟨k + 1, by omega, by go_num, Lib.hid (HSET.out ▸ H2.out.set (n + k) (.int .u8 mark)), Lib.hid (bel_set HB.out g (n + k) (Nat.le_refl _) _)⟩
      case measure => simp [intOf]; omega
    · obtain rfl : k = 80 := by omega
      go_wp2
      go_ret
      refine ⟨_, _, n + 80, rfl, room_blk H2.out (by rw [roomL_length _ _ _ hk, HL.out]) (by omega), ?_⟩
      rw [sts_iff]
      refine ⟨fun x hx => ?_, by simp, ?_⟩
      · obtain rfl : x = _ := by simpa using hx
        exact ⟨H2.out, HG.out⟩
      · rw [← HG2.out]; exact HB.out
theorem room_take (l : List Int) (m : Int) : (roomL l m 80).take l.length = l := by unfold roomL; rw [List.take_left']; rfl
theorem room_at (l : List Int) (m : Int) {k : Nat} (hk : k < 80) : (roomL l m 80).getD (l.length + k) 0 = m := by
  unfold roomL
  rw [List.getD_eq_getElem?_getD, List.getElem?_append_right (by omega), Nat.add_sub_cancel_left, List.getElem?_append_left (by simpa using hk), List.getElem?_replicate]
  rw [if_pos hk]; rfl
set_option maxHeartbeats 1000000 in
set_option maxRecDepth 100000 in
theorem intact_yes (A B : Option Addr) (k ca cb : Nat) (l : List Int) (m : Int) (w : World) (hA : Src w A (k + 80) 1 (bs (roomL l m 80))) (hB : Src w B k 1 (bs l)) (hca : k + 80 ≤ ca) (hk : k ≤ 900000) :
    Calls Try.prog 36 #[.slice A (k + 80) ca, .slice B k cb, .int .u8 m] w fun e w' => e = .returned (.bool true) ∧ ∃ j, w' = w.drewN j := by
  have hl := hB.len
  have hT := hA.cutHi (k := k) (by omega)
  rw [← hl, room_take, hl] at hT
  have hsame := same_yes (c := ca) (d := cb) l l hT hB (by omega) (by omega) rfl
  have HA := Lib.hid hA
  have HL := Lib.hid hl
  have HSAME := Lib.hid hsame
  have b0 : (((k + 80 : Nat) : Int) != (k : Int) + 80) = false := by rw [bne_eq_false_iff_eq]; omega
  have b1 : (m != m) = false := by simp
  clear hA hB hl hT hsame
  go_enter Try.func36, Try.ntmps36
  go_wp2_with fail
  refine HSAME.out.mono ?_
  rintro e w1 ⟨rfl, j1, hj1⟩
  have HJ := Lib.hid hj1
  clear hj1
  go_wp2_with fail
  go_loop [7] (fun i => ∃ (q : Nat), q ≤ 80 ∧ i = .int .i64 ((k + q : Nat) : Int)) (fun i => k + 80 - (intOf i).toNat)
  case atStart => exact ⟨0, by omega, by simp⟩
  case round =>
    obtain ⟨q, hq, rfl⟩ := hrel
    by_cases hlt : q < 80
    · obtain ⟨ad, rfl, hcell⟩ := (HA.out.drewE HJ.out).byte (k := k + q) (by omega)
      rw [← HL.out, room_at l m hlt, HL.out] at hcell
      go_wp2
      go_round
      case rel => exact ⟨q + 1, by omega, by go_num⟩
      case measure => simp [intOf]; omega
    · obtain rfl : q = 80 := by omega
      go_wp2
      go_ret
      exact ⟨rfl, j1, HJ.out⟩
end Go.Proofs.Ytefidbfhcpcgjaa

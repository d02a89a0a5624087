import Derived.Test.YtideaimlnipkoaaShZero
import Derived.Laws.CopyOwn
import Derived.Laws.StructEq
namespace Go.Proofs.Ytideaimlnipkoaa
open Go.RowKit
set_option linter.unusedVariables false
set_option linter.unusedSimpArgs false
theorem run_copy_rowN {P : Program} (w : World) (dT sT ty elem : TypeId) (g dLen dCap sLen sCap size : Nat) (sp : Option Addr) (cur : Array Value) (t : TypeId) (cs : List Value) (hu : P.underlying dT = some (.slice elem)) (hs : (P.info? elem).map (·.size) = some size)
    (hg : w.heap[g]? = some (.cells cur t (0, 0))) (hsrc : Src w sp sLen size cs) (hle : sLen ≤ dLen) (hfit : cs.length ≤ cur.size) (h1 : ∀ v ∈ cs, v.oneCell' = true) :
    (Builtin.copy_ #[dT, sT] ty #[.slice (some ⟨g, 0, none⟩) dLen dCap, .slice sp sLen sCap]).run P w = .ok (goInt sLen) (w.setRow g (cs ++ cur.toList.drop cs.length).toArray) := by
  have hm : Nat.min sLen dLen = sLen := Nat.min_eq_left hle
  have hst := run_storeCells_at P g 0 t cs 0 cur w hg (by omega) h1
  simp only [Nat.zero_add, List.take_zero, List.nil_append] at hst
  cases hq : P.info? elem with
  | none => simp [hq] at hs
  | some i =>
    have hi : i.size = size := by simpa [hq] using hs
    rcases Nat.eq_zero_or_pos sLen with h0 | h0
    · subst h0
      have hc : cs = [] := List.eq_nil_of_length_eq_zero (by have := hsrc.1; omega)
      subst hc
      have hl : ∀ (x : Addr), (loadCells x 0).run P w = .ok #[] w := fun x => by simpa using run_loadCells_list (P := P) w x [] (by simp)
      have hst0 : (storeCells ⟨g, 0, none⟩ []).run P w = .ok () (w.setRow g cur) := by simpa using hst
      cases sp <;> simp [Builtin.copy_, run_underlying hu, Builtin.lenOf, Builtin.firstCells, sizeOf, typeInfo, hq, hm, hl, hst0]
    · obtain ⟨ad, rfl, hc⟩ := hsrc.2 h0
      have hl := run_loadCells_list (P := P) w ad cs hc
      rw [hsrc.1] at hl
      simp [Builtin.copy_, run_underlying hu, Builtin.lenOf, Builtin.firstCells, sizeOf, typeInfo, hq, hi, hm, hl, hst]
theorem wpList_copyN {P : Program} {w : World} {ops : Array Oper} {rest : List Oper} {o : Oper} {a : Act} {Q : Exit → Act → World → Prop} (hgd : o.guard = none) (d s : Operand) (dT sT : TypeId)
    (ho : o.op = .call { callee := .builtin .copy, args := #[d, s], argTypes := #[dT, sT] }) (elem : TypeId) (size : Nat) (hu : P.underlying dT = some (.slice elem)) (hsz : (P.info? elem).map (·.size) = some size)
    {g dLen dCap sLen sCap : Nat} {sp : Option Addr} (hd : a.eval d = .slice (some ⟨g, 0, none⟩) dLen dCap) (hs : a.eval s = .slice sp sLen sCap) {cur : Array Value} {t : TypeId} (hg : w.heap[g]? = some (.cells cur t (0, 0)))
    {cs : List Value} (hsrc : Src w sp sLen size cs) (hle : sLen ≤ dLen) (hfit : cs.length ≤ cur.size) (h1 : ∀ v ∈ cs, v.oneCell' = true)
    (h : wpList P ops Q rest (a.put o.dst (goInt sLen)) (w.setRow g (cs ++ cur.toList.drop cs.length).toArray)) : wpList P ops Q (o :: rest) a w := by
  refine wpList_plain hgd fun K hK => ?_
  have hrun := run_copy_rowN (P := P) w dT sT o.type elem g dLen dCap sLen sCap size sp cur t cs hu hsz hg hsrc hle hfit h1
  unfold Oper.wp
  simp [execOp, ho, resolve, invoke, builtin, hd, hs, hrun, Result.andThen]
  exact hK _ _ h
theorem Blk.setRow {w : World} {g : Nat} {cs cs' : Array Value} {t : TypeId} (h : Blk w g cs t) : Blk (w.setRow g cs') g cs' t := setRow_heap w g cs cs' t (0, 0) h
theorem But.setRow (w : World) (g : Nat) (cs : Array Value) : But g w (w.setRow g cs) := ⟨rfl, rfl, rfl, by simp [World.setRow], fun k _ hne => setRow_other w g k cs hne⟩
/-- The entries, 80 more behind them: the first k of these bear the mark. -/
def roomE (l : List (Int × Int)) (m : Int × Int) (k : Nat) : List (Int × Int) := l ++ (List.replicate k m ++ List.replicate (80 - k) (0, 0))
theorem roomE_set (l : List (Int × Int)) (m : Int × Int) (k : Nat) (hk : k < 80) : (roomE l m k).set (l.length + k) m = roomE l m (k + 1) := by
  unfold roomE
  rw [List.set_append_right _ _ (by omega), Nat.add_sub_cancel_left, List.set_append_right _ _ (by simp), List.length_replicate, Nat.sub_self]
  congr 1
  rw [show 80 - k = (80 - (k + 1)) + 1 by omega, List.replicate_succ, List.set_cons_zero, List.replicate_succ', List.append_assoc]
  rfl
theorem roomE_length (l : List (Int × Int)) (m : Int × Int) (k : Nat) (hk : k ≤ 80) : (roomE l m k).length = l.length + 80 := by simp [roomE]; omega
theorem roomE_take (l : List (Int × Int)) (m : Int × Int) : (roomE l m 80).take l.length = l := by unfold roomE; rw [List.take_left']; rfl
theorem roomE_at (l : List (Int × Int)) (m : Int × Int) {k : Nat} (hk : k < 80) : (roomE l m 80)[l.length + k]? = some m := by
  unfold roomE
  rw [List.getElem?_append_right (by omega), Nat.add_sub_cancel_left, List.getElem?_append_left (by simpa using hk), List.getElem?_replicate, if_pos hk]
set_option maxHeartbeats 4000000 in
set_option maxRecDepth 100000 in
theorem roomy_calls (A : Option Addr) (n c : Nat) (l : List (Int × Int)) (m1 m2 : Int) (w : World) (hs : Src w A n 2 (ecs l)) (hn : n ≤ 100000) :
    Calls Try.prog 17 #[.slice A n c, .agg #[.int .i64 m1, .int .i64 m2]] w fun e w' => ∃ R a cap, e = .returned (.slice a (n + 80) cap) ∧ Row R 27 2 a (n + 80) cap (ecs (roomE l (m1, m2) 80)) ∧ Sts w R w' := by
  have hl : l.length = n := by have := hs.1; rw [ecs_length] at this; omega
  have hsz : (Try.prog.info? 27).map (·.size) = some 2 := by kernel_rfl
  have hmk : ∀ W, (Instr.makeSlice 35 (.int .i64 ((n : Int) + 80)) (.int .i64 ((n : Int) + 80))).run Try.prog W = .ok (.slice (some ⟨W.heap.size, 0, none⟩) (n + 80) (n + 80)) (W.alloc (.cells (ZS (n + 80)) 27)) := fun W => by
    have := make_entries (n + 80) (by omega) W
    simpa using this
  rw [ZS_eq] at hmk
  have HS := Lib.hid hs; have HL := Lib.hid hl
  have HZL := Lib.hid (show (List.replicate (n + 80) ((0 : Int), (0 : Int))).length = n + 80 by simp)
  have hz0 : ecs l ++ (ecs (List.replicate (n + 80) ((0 : Int), (0 : Int)))).drop (ecs l).length = ecs (roomE l (m1, m2) 0) := by
    rw [ecs_length, hl]
    unfold ecs
    rw [flat_drop ec 2 ec_length, ← List.flatMap_append]
    congr 1
    unfold roomE
    simp
  have HZ0 := Lib.hid hz0
  generalize List.replicate (n + 80) ((0 : Int), (0 : Int)) = zs at *
  clear hs hl hz0
  have HS0 := Lib.hid (((Sts.nil w).add (g := w.heap.size) rfl #[.int .i64 m1, .int .i64 m2] 27).add (g := w.heap.size + 1) (by simp) (ecs zs).toArray 27)
  have HB0 : Hid (((w.alloc (.cells #[.int .i64 m1, .int .i64 m2] 27)).alloc (.cells (ecs zs).toArray 27)).heap[w.heap.size + 1]? = some (.cells (ecs zs).toArray 27 (0, 0))) := Lib.hid (HS0.out.at_ 1 rfl)
  have HSS := Lib.hid ((HS.out.alloc (.cells #[.int .i64 m1, .int .i64 m2] 27)).alloc (.cells (ecs zs).toArray 27))
  go_enter Try.func17, Try.ntmps17
  go_wp2_with (with_reducible refine wpList_copyN rfl (.tmp 11) (.tmp 12) 35 35 rfl 27 2 Try.underlying35 hsz rfl rfl HB0.out HSS.out (by omega) (by rw [List.size_toArray, ecs_length, ecs_length, HL.out, HZL.out]; omega) (ecs_one _) ?_)
  rw [HZ0.out]
  have hs1 := (HS0.out.upd 1 rfl ((HS0.out.at_ 1 rfl).setRow (cs' := (ecs (roomE l (m1, m2) 0)).toArray)) (But.setRow _ _ _)).lit (L' := [(w.heap.size, #[.int .i64 m1, .int .i64 m2], 27), (w.heap.size + 1, (ecs (roomE l (m1, m2) 0)).toArray, 27)]) rfl
  have HS1 := Lib.hid hs1
  clear hs1 HS0 HB0 HSS HS HZ0 HZL hmk hsz
  generalize World.setRow _ _ _ = w2 at *
  generalize w.heap.size + 1 = g1 at *
  generalize hg0 : w.heap.size = g0 at *
  clear hg0
  go_loopw [6] (fun v6 wr => ∃ (k : Nat), k ≤ 80 ∧ v6 = .int .i64 ((n + k : Nat) : Int) ∧ Hid (Sts w [(g0, #[.int .i64 m1, .int .i64 m2], 27), (g1, (ecs (roomE l (m1, m2) k)).toArray, 27)] wr)) (fun v6 _ => n + 80 - (intOf v6).toNat)
  case atStart => exact ⟨0, by omega, by simp, HS1⟩
  case round =>
    clear HS1
    obtain ⟨k, hk, rfl, HSr⟩ := hrel
    by_cases hlt : k < 80
    · have hrl : (roomE l (m1, m2) k).length = n + 80 := by rw [roomE_length _ _ _ hk, HL.out]
      obtain ⟨x0, x1⟩ := ecs_at (roomE l (m1, m2) k) (i := n + k) (by omega)
      have c0 := HSr.out.cell 0 0 rfl (v := .int .i64 m1) rfl
      have c1 := HSr.out.cell 0 1 rfl (v := .int .i64 m2) rfl
      have e0 := HSr.out.cell 1 ((n + k) * 2) rfl x0
      have e1 := HSr.out.cell 1 ((n + k) * 2 + 1) rfl x1
      have f0 := HSr.out.frozen 1 ((n + k) * 2) rfl
      have f1 := HSr.out.frozen 1 ((n + k) * 2 + 1) rfl
      have hset := ecs_set (roomE l (m1, m2) k) (n + k) m1 m2 (by omega)
      have hrs := roomE_set l (m1, m2) k hlt
      rw [HL.out] at hrs
      rw [hrs] at hset
      have HSET := Lib.hid hset
      clear x0 x1 hset hrs hrl
      go_wp2
      go_roundw
      case rel => 
        have h2 := (HSr.out.set 1 ((n + k) * 2) (.int .i64 m1) rfl).set 1 ((n + k) * 2 + 1) (.int .i64 m2) rfl
        exact ⟨k + 1, by omega, by go_num, Lib.hid (h2.lit (by rw [← HSET.out]; rfl))⟩
      case measure => simp [intOf]; omega
    · obtain rfl : k = 80 := by omega
      go_wp2
      go_ret
      refine ⟨[(g1, (ecs (roomE l (m1, m2) 80)).toArray, 27)], _, n + 80, rfl, ?_, HSr.out.sub (List.sublist_cons_self _ _)⟩
      have hrl : (roomE l (m1, m2) 80).length = n + 80 := by rw [roomE_length _ _ _ (by omega), HL.out]
      exact ⟨by rw [ecs_length, hrl], Nat.le_refl _, by unfold maxLen; omega, .inr ⟨g1, _, rfl, rfl, by rw [List.size_toArray, ecs_length, hrl], by rw [List.take_of_length_le]; simp [ecs_length, hrl]⟩⟩
theorem src_ec {W : World} {A : Option Addr} {n : Nat} {l : List (Int × Int)} (h : Src W A n 2 (ecs l)) {k : Nat} {e : Int × Int} (hg : l[k]? = some e) : ∃ ad, A = some ad ∧ W.cell? (ad.add (k * 2)) = some (.int .i64 e.1) ∧ W.cell? ⟨(ad.add (k * 2)).block, (ad.add (k * 2)).off + 1, none⟩ = some (.int .i64 e.2) := by
  have hl : l.length = n := by have := h.1; rw [ecs_length] at this; omega
  have hk := (List.getElem?_eq_some_iff.1 hg).1
  obtain ⟨ad, e1, hc⟩ := h.2 (by omega)
  refine ⟨ad, e1, ?_, ?_⟩
  · have := hc (k * 2 + 0) (.int .i64 e.1) (by rw [ecs, flat_get ec 2 ec_length l k 0 _ hg (by omega)]; rfl)
    simpa using this
  · have := hc (k * 2 + 1) (.int .i64 e.2) (by rw [ecs, flat_get ec 2 ec_length l k 1 _ hg (by omega)]; rfl)
    rw [add_next ad (k * 2) 1 (by omega)] at this
    exact this
set_option maxHeartbeats 2000000 in
set_option maxRecDepth 100000 in
theorem sameE_yes {A B : Option Addr} {n c d : Nat} (a : List (Int × Int)) {w : World} (ha : Src w A n 2 (ecs a)) (hb : Src w B n 2 (ecs a)) (hn : n ≤ 1000000) :
    Calls Try.prog 26 #[.slice A n c, .slice B n d] w fun e w' => e = .returned (.bool true) ∧ ∃ k, w' = w.drewN k := by
  have hl : a.length = n := by have := ha.1; rw [ecs_length] at this; omega
  have HA := Lib.hid ha; have HB := Lib.hid hb; have HL := Lib.hid hl
  clear ha hb hl
  have b1 : ((n : Int) != n) = false := by simp
  go_enter Try.func26, Try.ntmps26
  go_wp2
  go_loopw [5] (fun i wr => ∃ (k j : Nat), k ≤ n ∧ i = .int .i64 k ∧ Hid (wr = w.drewN j)) (fun i _ => n - (intOf i).toNat)
  case atStart => exact ⟨0, 0, Nat.zero_le _, rfl, Lib.hid rfl⟩
  case round =>
    obtain ⟨k, j, hk, rfl, HW⟩ := hrel
    by_cases hlt : k < n
    · have hka : k < a.length := by rw [HL.out]; exact hlt
      have hg : a[k]? = some a[k] := List.getElem?_eq_getElem hka
      obtain ⟨ad, rfl, c0, c1⟩ := src_ec (HA.out.drewE HW.out) hg
      obtain ⟨bd, rfl, e0, e1⟩ := src_ec (HB.out.drewE HW.out) hg
      generalize a[k] = e at *
      obtain ⟨x, y⟩ := e
      simp only at c0 c1 e0 e1
      have i0 : (0 : Int) ≤ (k : Int) := by omega
      have i1 : (k : Int) < (n : Int) := by omega
      clear hg
      go_upto_region 6 with fail
      go_quiet (fail)
      go_wp2
      go_roundw
      case rel => exact ⟨k + 1, j + nq, by omega, by go_num, Lib.hid (by rw [HW.out, World.drewN_drewN])⟩
      case measure => simp [intOf]; omega
    · obtain rfl : k = n := by omega
      go_wp2
      go_ret
      exact ⟨rfl, j, HW.out⟩
set_option maxHeartbeats 2000000 in
set_option maxRecDepth 100000 in
theorem intactE_yes {A B : Option Addr} {k ca cb : Nat} (l : List (Int × Int)) (m1 m2 : Int) {w : World} (hA : Src w A (k + 80) 2 (ecs (roomE l (m1, m2) 80))) (hB : Src w B k 2 (ecs l)) (hca : k + 80 ≤ ca) (hk : k ≤ 900000) :
    Calls Try.prog 18 #[.slice A (k + 80) ca, .slice B k cb, .agg #[.int .i64 m1, .int .i64 m2]] w fun e w' => e = .returned (.bool true) ∧ Below w.heap.size w w' := by
  have hl : l.length = k := by have := hB.1; rw [ecs_length] at this; omega
  have hT : Src w A k 2 (ecs l) := by
    refine ⟨hB.1, fun hn => ?_⟩
    obtain ⟨ad, e, hc⟩ := hA.2 (by omega)
    refine ⟨ad, e, fun j u hu => hc j u ?_⟩
    rw [roomE, ecs_app, List.getElem?_append_left (List.getElem?_eq_some_iff.1 hu).1]; exact hu
  have HA := Lib.hid hA; have HL := Lib.hid hl; have HT := Lib.hid hT; have HB := Lib.hid hB
  have b0 : (((k + 80 : Nat) : Int) != (k : Int) + 80) = false := by rw [bne_eq_false_iff_eq]; omega
  clear hA hB hl hT
  have HS0 := Lib.hid ((Sts.nil w).add (g := w.heap.size) rfl #[.int .i64 m1, .int .i64 m2] 27)
  go_enter Try.func18, Try.ntmps18
  go_wp2_with fail
  refine (sameE_yes (c := ca) (d := cb) l (HT.out.alloc _) (HB.out.alloc _) (by omega)).mono ?_
  rintro e w1 ⟨rfl, j1, hj1⟩
  have HS1 := Lib.hid (show Sts w [(w.heap.size, #[.int .i64 m1, .int .i64 m2], 27)] w1 from hj1 ▸ HS0.out.drewN j1)
  generalize w.heap.size = g0 at *
  clear hj1 HS0
  go_wp2_with fail
  go_loopw [7] (fun i wr => ∃ (q : Nat), q ≤ 80 ∧ i = .int .i64 ((k + q : Nat) : Int) ∧ Hid (Sts w [(g0, #[.int .i64 m1, .int .i64 m2], 27)] wr)) (fun i _ => k + 80 - (intOf i).toNat)
  case atStart => exact ⟨0, by omega, by simp, HS1⟩
  case round =>
    obtain ⟨q, hq, rfl, HSr⟩ := hrel
    by_cases hlt : q < 80
    · have hat := roomE_at l (m1, m2) hlt
      rw [HL.out] at hat
      obtain ⟨ad, rfl, c0, c1⟩ := src_ec (HA.out.below HSr.out.bel) hat
      have e0 := HSr.out.cell 0 0 rfl (v := .int .i64 m1) rfl
      have e1 := HSr.out.cell 0 1 rfl (v := .int .i64 m2) rfl
      simp only at c0 c1
      have i0 : (0 : Int) ≤ ((k + q : Nat) : Int) := by omega
      have i1 : ((k + q : Nat) : Int) < ((k + 80 : Nat) : Int) := by omega
      have i2 : (k : Int) + (q : Int) < (k : Int) + 80 := by omega
      have i3 : (0 : Int) ≤ (k : Int) + (q : Int) := by omega
      have i4 : ((k : Int) + (q : Int)).toNat = k + q := by omega
      clear hat
      go_upto_region 6 with fail
      go_quiet (fail)
      have HS2 := Lib.hid (HSr.out.drewN nq)
      clear i0 i1 i2 i3 i4 c0 c1 e0 e1
      go_wp2
      go_roundw
      case rel => exact ⟨q + 1, by omega, by go_num, HS2⟩
      case measure => simp [intOf]; omega
    · obtain rfl : q = 80 := by omega
      go_wp2
      go_ret
      exact ⟨rfl, HSr.out.bel⟩
end Go.Proofs.Ytideaimlnipkoaa

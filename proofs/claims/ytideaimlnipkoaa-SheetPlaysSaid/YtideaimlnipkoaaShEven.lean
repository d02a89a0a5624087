import Derived.Test.YtideaimlnipkoaaShZero
import Derived.RegionTactic
namespace Go.Proofs.Ytideaimlnipkoaa
open Go.RowKit
set_option linter.unusedVariables false
set_option linter.unusedSimpArgs false
def cl5 (e : Int × Int) : Int × Int := (within e.1 0 4, within e.2 (-1099511627776) 1099511627776)
def someL (es : List (Int × Int)) (k : Nat) : List (Int × Int) := (es.take k).map cl5
/-- The entries, ahead of them the one that evens them. -/
def evenL (l : List (Int × Int)) : List (Int × Int) := (0, -(amts l).sum) :: l
theorem someL_next {es : List (Int × Int)} {k : Nat} {e : Int × Int} (h : es[k]? = some e) : someL es (k + 1) = someL es k ++ [cl5 e] := by
  unfold someL; rw [take_next h, List.map_append]; rfl
theorem someL_len {es : List (Int × Int)} {k : Nat} (h : k ≤ es.length) : (someL es k).length = k := by unfold someL; simp; omega
theorem cl5_bd (e : Int × Int) : (0 ≤ (cl5 e).1 ∧ (cl5 e).1 < 5) ∧ -1099511627776 ≤ (cl5 e).2 ∧ (cl5 e).2 ≤ 1099511627776 := by
  have h1 := within_bd e.1 (lo := 0) (hi := 4) (by omega)
  have h2 := within_bd e.2 (lo := -1099511627776) (hi := 1099511627776) (by omega)
  unfold cl5
  exact ⟨⟨h1.1, by simp only; omega⟩, h2.1, h2.2⟩
theorem someL_small (es : List (Int × Int)) (k : Nat) : Small 5 1099511627776 (someL es k) := by
  refine ⟨fun e he => ?_, fun e he => ?_⟩ <;>
  · obtain ⟨x, _, rfl⟩ := List.mem_map.1 he
    have := cl5_bd x
    first | exact this.1 | exact this.2
theorem evenL_small {l : List (Int × Int)} (h : Small 5 1099511627776 l) (hl : l.length ≤ 8) : Small 5 8796093022208 (evenL l) := by
  have h1 := h.sum (by omega)
  refine ⟨fun e he => ?_, fun e he => ?_⟩
  · rcases List.mem_cons.1 he with rfl | he
    · simp only; omega
    · exact h.acc e he
  · rcases List.mem_cons.1 he with rfl | he
    · simp only; omega
    · have := h.amt e he; omega
theorem evenL_sum (l : List (Int × Int)) : (amts (evenL l)).sum = 0 := by unfold evenL; simp [amts]; omega
theorem Row.formN {R : List Ent} {e : TypeId} {size n cap : Nat} {a : Option Addr} {xs : List Value} (h : Row R e size a n cap xs) (hn : 0 < n) : ∃ g cur, a = some ⟨g, 0, none⟩ ∧ R = [(g, cur, e)] := by
  obtain ⟨_, h2, _, h4⟩ := h
  rcases h4 with ⟨_, h5⟩ | ⟨g, cur, h6, h7, _⟩
  · omega
  · exact ⟨g, cur, h6, h7⟩
theorem Row.ownN {e : TypeId} {g size n cap : Nat} {cur : Array Value} {xs : List Value} (h : Row [(g, cur, e)] e size (some ⟨g, 0, none⟩) n cap xs) {i : Nat} (hi : i < n * size) : cur[i]? = xs[i]? := by
  obtain ⟨_, h2, _, h4⟩ := h
  rcases h4 with ⟨h5, _⟩ | ⟨g', cur', h6, h7, h8, h9⟩
  · cases h5
  · obtain ⟨_, h10⟩ := Prod.mk.inj (List.cons.inj h7).1
    obtain ⟨rfl, _⟩ := Prod.mk.inj h10
    rw [← h9, List.getElem?_take, if_pos hi, Array.getElem?_toList]
theorem Row.putN {e : TypeId} {g size n cap : Nat} {cur : Array Value} {xs : List Value} (h : Row [(g, cur, e)] e size (some ⟨g, 0, none⟩) n cap xs) (i : Nat) (v : Value) : Row [(g, cur.setIfInBounds i v, e)] e size (some ⟨g, 0, none⟩) n cap (xs.set i v) := by
  obtain ⟨h1, h2, h3, h4⟩ := h
  rcases h4 with ⟨h5, _⟩ | ⟨g', cur', h6, h7, h8, h9⟩
  · cases h5
  · obtain ⟨h11, h10⟩ := Prod.mk.inj (List.cons.inj h7).1
    obtain ⟨rfl, _⟩ := Prod.mk.inj h10
    refine ⟨by rw [List.length_set]; exact h1, h2, h3, .inr ⟨g, _, rfl, rfl, by simpa using h8, ?_⟩⟩
    rw [← h9, Array.toList_setIfInBounds, List.take_set]
set_option maxHeartbeats 8000000 in
set_option maxRecDepth 100000 in
theorem even_calls (A1 : Option Addr) (n1 c1 : Nat) (es : List (Int × Int)) (w : World) (h1 : Ents w A1 n1 es) (hn1 : n1 ≤ 9223372036854775807) :
    Calls Try.prog 16 #[.slice A1 n1 c1] w fun e w' => ∃ (m : Nat) (R : List Ent) (a : Option Addr) (cap : Nat), m ≤ 8 ∧ m ≤ n1 ∧ e = .returned (.slice a (m + 1) cap) ∧ Row R 27 2 a (m + 1) cap (ecs (evenL (someL es m))) ∧ Sts w R w' := by
  obtain ⟨i0, hi, hz, hs1, hs2⟩ := info_parts entry_info
  have hlen := h1.len
  have H := Lib.hid h1; have HL := Lib.hid hlen
  clear h1 hlen
  have HS0 := Lib.hid ((Sts.nil w).add (g := w.heap.size) rfl #[.int .i64 0, .int .i64 0] 27)
  have HR0 : Hid (Row [(w.heap.size, #[.int .i64 0, .int .i64 0], 27)] 27 2 (some ⟨w.heap.size, 0, none⟩) 1 1 (ecs (evenL []))) := Lib.hid ⟨rfl, Nat.le_refl _, by unfold maxLen; omega, .inr ⟨w.heap.size, _, rfl, rfl, rfl, rfl⟩⟩
  go_enter Try.func16, Try.ntmps16
  go_upto_block 0 with fail
  go_cut [3] (fun v3 wc => ∃ (k : Nat) (R : List Ent) (A : Option Addr) (cap : Nat), k ≤ 8 ∧ k ≤ n1 ∧ v3 = .slice A (k + 1) cap ∧ Hid (Row R 27 2 A (k + 1) cap (ecs (evenL (someL es k)))) ∧ Hid (Sts w (R ++ []) wc))
  case first =>
    go_wp2_with fail
    go_loopw [3, 4] (fun v3 v4 wr => ∃ (k : Nat) (R : List Ent) (A : Option Addr) (cap : Nat), k ≤ 8 ∧ k ≤ n1 ∧ v3 = .slice A (k + 1) cap ∧ v4 = .int .i64 k ∧ Hid (Row R 27 2 A (k + 1) cap (ecs (evenL (someL es k)))) ∧ Hid (Sts w (R ++ []) wr)) (fun v3 v4 _ => 8 - (intOf v4).toNat)
    case atStart => exact ⟨0, _, _, 1, by omega, by omega, rfl, rfl, HR0, HS0⟩
    case round =>
      obtain ⟨k, R, A, cap, hk, hk1, rfl, rfl, HR, HSr⟩ := hrel
      clear HS0 HR0
      have hsb := (someL_small es k).sum (by omega)
      rw [someL_len (by rw [HL.out]; exact hk1)] at hsb
      obtain ⟨s, hs⟩ : ∃ s, (amts (someL es k)).sum = s := ⟨_, rfl⟩
      rw [hs] at hsb
      have HSUM := Lib.hid hs
      obtain ⟨s0, s1⟩ := hsb
      replace s0 : -8796093022208 ≤ s := by omega
      replace s1 : s ≤ 8796093022208 := by omega
      clear hs
      by_cases q1 : k < n1 ∧ k < 8
      · obtain ⟨q2, q3⟩ := q1
        obtain ⟨ad, e, rfl, hg, hd, d1, d2, hc0, hc1⟩ := H.out.at_ q2
        replace hc0 := HSr.out.old hc0
        replace hc1 := HSr.out.old hc1
        have hnx := someL_next hg
        obtain ⟨ce0, ce1⟩ := cl5_bd e
        have hce : cl5 e = (within e.1 0 4, within e.2 (-1099511627776) 1099511627776) := rfl
        have HCE := Lib.hid hce
        have HN := Lib.hid hnx
        generalize cl5 e = ce at *
        obtain ⟨p, q⟩ := ce
        obtain ⟨e1, e2⟩ := e
        simp only at hc0 hc1 ce0 ce1
        clear hnx hce hg hd d1 d2
        have i0 : (0 : Int) ≤ (k : Int) := by omega
        have i1 : (k : Int) < (n1 : Int) := by omega
        have b0 : decide ((k : Int) < 8) = true := decide_eq_true (by omega)
        have b1 : decide (k < n1) = true := decide_eq_true q2
        go_upto_region 5 with fail
        go_cut [5] (fun v8 wc => ∃ gn, v8 = .pointer (some ⟨gn, 0, none⟩) ∧ Hid (Sts w ((R ++ []) ++ [(gn, #[.int .i64 p, .int .i64 q], 27)]) wc))
        case first =>
          go_region_held3 (fun w' => w'.cell? (ad.add (k * 2)) = some (.int .i64 e1) ∧ w'.cell? ⟨(ad.add (k * 2)).block, (ad.add (k * 2)).off + 1, none⟩ = some (.int .i64 e2)) (first | exact ⟨hc0, hc1⟩ | go_keep) ((go_at_call 14; refine (within_calls _ _ _ _ (by omega) (by omega) (by omega)).mono ?_; rintro e w' ⟨rfl, rfl⟩))
          all_goals
            obtain ⟨rfl, rfl⟩ := Prod.mk.inj HCE.out
            go_wp2_with fail
            go_meet
            exact ⟨_, rfl, Lib.hid (HSr.out.add rfl _ _).drew⟩
        case rest =>
          obtain ⟨gn, rfl, HS2⟩ := hcut
          have hs2 := Sts.lit (L' := [] ++ (R ++ [(gn, #[.int .i64 p, .int .i64 q], 27)])) HS2.out (by simp)
          have n0 := HS2.out.cellM (g := gn) (cs := #[.int .i64 p, .int .i64 q]) (t := 27) (by simp) 0 (v := .int .i64 p) rfl
          have n1' := HS2.out.cellM (g := gn) (cs := #[.int .i64 p, .int .i64 q]) (t := 27) (by simp) 1 (v := .int .i64 q) rfl
          have HS3 := Lib.hid hs2
          clear hs2 HS2 hc0 hc1 HSr HCE i0 i1
          go_upto_region 7 with (at_builtin; go_must (refine row_append (by rfl) (.tmp 31) (.tmp 33) 35 rfl [] [(gn, #[.int .i64 p, .int .i64 q], 27)] Try.underlying35 hi hz hs1 hs2 rfl (by omega) HR.out (HS3.out.skip _) rfl rfl (Src.new (size := 2) (m := 1) rfl rfl) (ecs_one [(p, q)]) (by omega) (by omega) ?_); rintro R3 a3 c3 w3 hR3 hS3)
          have hR4 : Row R3 27 2 a3 (k + 1 + 1) c3 (ecs (evenL (someL es k) ++ [(p, q)])) := by rw [ecs_app]; exact hR3
          obtain ⟨g3, cur, rfl, rfl⟩ := hR4.formN (by omega)
          have hx1 : cur[1]? = some (.int .i64 (-s)) := by
            rw [hR4.ownN (by omega)]
            have : (ecs (evenL (someL es k) ++ [(p, q)]))[1]? = some (.int .i64 (-(amts (someL es k)).sum)) := rfl
            rw [this, HSUM.out]
          have c0 := hS3.cellM (g := g3) (cs := cur) (t := 27) (by simp) 1 hx1
          have d0 := hS3.frozenM (g := g3) (cs := cur) (t := 27) (by simp) 1
          have n1'' := hS3.cellM (g := gn) (cs := #[.int .i64 p, .int .i64 q]) (t := 27) (by simp) 1 (v := .int .i64 q) rfl
          have HR4 := Lib.hid hR4; have HS4 := Lib.hid hS3
          clear hR3 hS3 hR4 hx1 n0 n1' HS3 HR
          have i0 : (0 : Int) < (k : Int) + 1 + 1 := by omega
          have i1 : (0 : Nat) < k + 1 + 1 := by omega
          have wr1 : IntKind.i64.wrap (-s - q) = -s - q := IntWalk.i64_in _ (by omega)
          go_region_law (fail)
          all_goals
            have hr5 := HR4.out.putN 1 (.int .i64 (-s - q))
            have he5 : (ecs (evenL (someL es k) ++ [(p, q)])).set 1 (.int .i64 (-s - q)) = ecs (evenL (someL es (k + 1))) := by
              rw [HN.out]
              have hx : -(amts (someL es k ++ [(p, q)])).sum = -s - q := by
                have := HSUM.out
                unfold amts at *
                rw [List.map_append, List.sum_append, this]; simp; omega
              unfold evenL
              rw [hx]; rfl
            rw [he5] at hr5
            have HR5 := Lib.hid hr5
            have HS5 := Lib.hid (((HS4.out.set 0 1 (.int .i64 (-s - q)) rfl).drew).sub (L' := [(g3, cur.setIfInBounds 1 (.int .i64 (-s - q)), 27)] ++ []) (by simp))
            clear hr5 he5 wr1 c0 d0 n1'' HR4 HS4
            go_wp2_with fail
            go_roundw
            case rel => exact ⟨k + 1, _, _, c3, by omega, by omega, rfl, by go_num, HR5, HS5⟩
            case measure => simp [intOf]; omega
      · by_cases q2 : k < n1
        · have b1 : decide (k < n1) = true := decide_eq_true q2
          have b0 : decide ((k : Int) < 8) = false := decide_eq_false (by omega)
          go_wp2_with fail
          go_meet
          exact ⟨k, R, A, cap, hk, hk1, rfl, HR, HSr⟩
        · have b1 : decide (k < n1) = false := decide_eq_false q2
          go_wp2_with fail
          go_meet
          exact ⟨k, R, A, cap, hk, hk1, rfl, HR, HSr⟩
  case rest =>
    obtain ⟨k, R, A, cap, hk, hk1, rfl, HR, HS⟩ := hcut
    go_wp2
    go_ret
    exact ⟨k, R, A, cap, hk, hk1, rfl, HR.out, HS.out.lit (by simp)⟩
end Go.Proofs.Ytideaimlnipkoaa

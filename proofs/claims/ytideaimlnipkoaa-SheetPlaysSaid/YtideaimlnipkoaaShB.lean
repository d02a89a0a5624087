import Derived.Test.YtideaimlnipkoaaShA
namespace Go.Proofs.Ytideaimlnipkoaa
open Go.RowKit
set_option linter.unusedVariables false
set_option linter.unusedSimpArgs false
def amts (es : List (Int × Int)) : List Int := es.map (·.2)
theorem take_next {α : Type} {l : List α} {k : Nat} {x : α} (h : l[k]? = some x) : l.take (k + 1) = l.take k ++ [x] := by
  obtain ⟨hlt, rfl⟩ := List.getElem?_eq_some_iff.1 h
  rw [List.take_succ_eq_append_getElem hlt]
theorem hsum_next {es : List (Int × Int)} {k : Nat} {e : Int × Int} (h : es[k]? = some e) : hsum (amts (es.take (k + 1))) = hadd (hsum (amts (es.take k))) e.2 := by
  unfold amts
  rw [take_next h, List.map_append, List.map_cons, List.map_nil, hsum_snoc]
theorem hsum_take_bd {es : List (Int × Int)} (h : ∀ e ∈ es, Bd e.1 ∧ Bd e.2) (k : Nat) (hk : k ≤ 199) : HB 199 (hsum (amts (es.take k))) := by
  refine (hsum_bd _ fun n hn => ?_).mono ?_
  · obtain ⟨e, he, rfl⟩ := List.mem_map.1 hn
    exact (h e (List.mem_of_mem_take he)).2
  · unfold amts; rw [List.length_map, List.length_take]; omega
theorem net_big {es : List (Int × Int)} (h : 64 < es.length) : netF es = (0, false) := by unfold netF; rw [if_pos h]
theorem net_out {es : List (Int × Int)} {e : Int × Int} {k : Nat} (h : es[k]? = some e) (hb : inB e.2 = false) : netF es = (0, false) := by
  unfold netF
  split
  · rfl
  · rw [if_neg]
    intro ha
    have := List.all_eq_true.1 ha e (List.mem_of_getElem? h)
    rw [hb] at this; cases this
theorem net_in {es : List (Int × Int)} (h : ¬ 64 < es.length) (ha : es.all (fun e => inB e.2) = true) : netF es = valF (hval (hsum (amts es))) := by
  unfold netF
  rw [if_neg h, if_pos ha, hsum_val]; rfl
theorem all_next {es : List (Int × Int)} {k : Nat} {e : Int × Int} (h : es[k]? = some e) (ha : (es.take k).all (fun e => inB e.2) = true) (hb : inB e.2 = true) : (es.take (k + 1)).all (fun e => inB e.2) = true := by
  rw [take_next h, List.all_append, ha]; simp [hb]
set_option maxHeartbeats 4000000 in
set_option maxRecDepth 100000 in
theorem net_calls (A : Option Addr) (n c : Nat) (es : List (Int × Int)) (w : World) (h : Ents w A n es) (hn : n ≤ 1000000) :
    Calls Try.prog 15 #[.slice A n c] w fun e w' => e = .returned (.tuple #[.int .i64 (netF es).1, .bool (netF es).2]) ∧ Below w.heap.size w w' := by
  have hlen := h.len
  have H := Lib.hid h; have HL := Lib.hid hlen
  clear h hlen
  by_cases h64 : 64 < n
  · have b0 : decide (64 < (n : Int)) = true := decide_eq_true (by omega)
    have b1 : decide (64 < n) = true := decide_eq_true h64
    have HV := Lib.hid (net_big (es := es) (by rw [HL.out]; exact h64))
    go_enter Try.func15, Try.ntmps15
    go_wp2
    go_ret2
    rw [HV.out]
    exact ⟨rfl, Below.refl _ _⟩
  · have b0 : decide (64 < (n : Int)) = false := decide_eq_false (by omega)
    have b1 : decide (64 < n) = false := decide_eq_false h64
    have HS0 := Lib.hid ((Sts.nil w).add (g := w.heap.size) rfl #[.int .i64 0, .int .i64 0] 55)
    go_enter Try.func15, Try.ntmps15
    go_wp2_with fail
    go_loopw [12] (fun v12 wr => ∃ k : Nat, k ≤ n ∧ v12 = .int .i64 k ∧ Hid ((es.take k).all (fun e => inB e.2) = true) ∧ Hid (Sts w [(w.heap.size, #[.int .i64 (hsum (amts (es.take k))).1, .int .i64 (hsum (amts (es.take k))).2], 55)] wr)) (fun v12 _ => n - (intOf v12).toNat)
    case atStart => exact ⟨0, by omega, rfl, Lib.hid (by simp), HS0⟩
    case round =>
      obtain ⟨k, hk, rfl, HA, HSr⟩ := hrel
      clear HS0
      by_cases hlt : k < n
      · obtain ⟨ad, e, rfl, hg, hd, d1, d2, hc0, hc1⟩ := H.out.at_ hlt
        replace hc0 := HSr.out.old hc0
        replace hc1 := HSr.out.old hc1
        have hhb := hsum_take_bd H.out.bd k (by omega)
        have hnx := hsum_next hg
        have hst : ∃ p, hsum (amts (es.take k)) = p := ⟨_, rfl⟩
        obtain ⟨⟨hi, lo⟩, hst⟩ := hst
        rw [hst] at HSr hhb hnx
        have HG := Lib.hid hg; have HN := Lib.hid hnx; have HHB := Lib.hid hhb; have HD := Lib.hid d2
        obtain ⟨e1, e2⟩ := e
        simp only at hc0 hc1
        clear hg hnx hst hhb d1 d2 hd
        by_cases hin : inB e2 = true
        · go_wp2_with fail
          refine (inside_calls _ _).mono ?_
          rintro e w' ⟨rfl, rfl⟩
          go_wp2_with fail
          refine (add_calls e2 0 0 (HSr.out.skip _) rfl rfl rfl (HHB.out.mono (by omega)) HD.out).mono ?_
          rintro e w2 ⟨rfl, hs⟩
          have HS2 := Lib.hid hs
          clear hs
          have HA2 := Lib.hid (all_next HG.out HA.out hin)
          go_wp2_with fail
          go_roundw
          case rel => exact ⟨k + 1, by omega, by go_num, HA2, by rw [HN.out]; exact HS2⟩
          case measure => simp [intOf]; omega
        · have hin : inB e2 = false := by simpa using hin
          have HV := Lib.hid (net_out HG.out hin)
          go_wp2_with fail
          refine (inside_calls _ _).mono ?_
          rintro e w' ⟨rfl, rfl⟩
          go_wp2
          go_ret2
          rw [HV.out]
          exact ⟨rfl, (HSr.out.skip _).bel⟩
      · obtain rfl : k = n := by omega
        have htake : es.take k = es := List.take_of_length_le (by rw [HL.out]; omega)
        have HV := Lib.hid (net_in (es := es) (by rw [HL.out]; exact h64) (htake ▸ HA.out))
        have hhb := hsum_take_bd H.out.bd k (by omega)
        rw [htake] at HSr hhb
        have hst : ∃ p, hsum (amts es) = p := ⟨_, rfl⟩
        obtain ⟨⟨hi, lo⟩, hst⟩ := hst
        rw [hst] at HSr HV hhb
        have c0 := HSr.out.cell 0 0 rfl (v := .int .i64 hi) rfl
        have c1 := HSr.out.cell 0 1 rfl (v := .int .i64 lo) rfl
        clear hst htake
        go_wp2_with fail
        refine (value_calls hi lo _ (hhb.mono (by omega))).mono ?_
        rintro e w2 ⟨rfl, hb⟩
        have HB2 := Lib.hid (bel_then HSr.out.bel hb HSr.out.size)
        clear hb
        go_wp2
        go_ret2
        rw [HV.out]
        exact ⟨rfl, HB2.out⟩
end Go.Proofs.Ytideaimlnipkoaa

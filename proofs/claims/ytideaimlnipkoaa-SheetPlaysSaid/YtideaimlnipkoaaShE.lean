import Derived.Test.YtideaimlnipkoaaShD
import Derived.Deep.RegionHeld3
namespace Go.Proofs.Ytideaimlnipkoaa
open Go.RowKit
set_option linter.unusedVariables false
set_option linter.unusedSimpArgs false
def postF (bal : List Int) (es : List (Int × Int)) : Option (List Int) := if netF es = (0, true) ∧ es ≠ [] then behindF bal es else none
/-- What Post does. -/
def PostGoes (r : Option (List Int)) (w0 : World) (L : List Ent) (g : Nat) (bal : List Int) (cnt : Nat) (e : Ending) (w' : World) : Prop :=
  match r with
  | some v => e = .returned (.bool true) ∧ ShAt w0 L g v (cnt + 1) w'
  | none => e = .returned (.bool false) ∧ ShAt w0 L g bal cnt w'
section
variable {w0 W : World} {L : List Ent} {g cnt : Nat} {bal : List Int}
theorem Ents.below {W W' : World} {A : Option Addr} {n : Nat} {es : List (Int × Int)} (h : Ents W A n es) (hb : Below W.heap.size W W') : Ents W' A n es := ⟨h.src.below hb, h.bd⟩
theorem post_no {r : Option (List Int)} {w' : World} (h : r = none) (hs : ShAt w0 L g bal cnt w') : PostGoes r w0 L g bal cnt (.returned (.bool false)) w' := by subst h; exact ⟨rfl, hs⟩
theorem net_ok_len {es : List (Int × Int)} (h : (netF es).2 = true) : es.length ≤ 64 := by
  unfold netF at h
  split at h
  · cases h
  · omega
set_option maxHeartbeats 4000000 in
set_option maxRecDepth 100000 in
theorem post_calls (A : Option Addr) (n c : Nat) (es : List (Int × Int)) (h : ShAt w0 L g bal cnt W) (hE : Ents W A n es) (hn : n ≤ 900000) (hl : bal.length ≤ 64) (hb : ∀ x ∈ bal, Bd x) (hc : cnt ≤ 1000000) :
    Calls Try.prog 10 #[.pointer (some ⟨g, 0, none⟩), .slice A n c] W (PostGoes (postF bal es) w0 L g bal cnt) := by
  have hlen := hE.len
  have hnet := net_calls A n c es W hE (by omega)
  have hok := net_ok_len (es := es)
  have hpf : postF bal es = if netF es = (0, true) ∧ es ≠ [] then behindF bal es else none := rfl
  obtain ⟨⟨nv, ok⟩, hnv⟩ : ∃ p, netF es = p := ⟨_, rfl⟩
  rw [hnv] at hnet hok hpf
  have H := Lib.hid h; have HE := Lib.hid hE; have HNET := Lib.hid hnet; have HOK := Lib.hid hok; have HPF := Lib.hid hpf; have HLEN := Lib.hid hlen; have HBD := Lib.hid hb
  clear h hE hnet hok hpf hlen hb hnv
  by_cases h0 : n = 0
  · have b0 : ((n : Int) == 0) = true := by rw [beq_iff_eq]; omega
    have b1 : (n == 0) = true := by rw [beq_iff_eq]; omega
    have hno : postF bal es = none := by
      rw [HPF.out, if_neg]
      rintro ⟨_, h2⟩
      exact h2 (List.eq_nil_of_length_eq_zero (by rw [HLEN.out]; exact h0))
    have HV := Lib.hid hno
    clear hno h0
    go_enter Try.func10, Try.ntmps10
    go_wp2_with fail
    refine HNET.out.mono ?_
    rintro e w1 ⟨rfl, hb1⟩
    have HB1 := Lib.hid hb1
    clear hb1
    go_wp2
    go_ret
    exact post_no HV.out (H.out.below HB1.out)
  · have b0 : ((n : Int) == 0) = false := by rw [beq_eq_false_iff_ne]; omega
    have b1 : (n == 0) = false := by rw [beq_eq_false_iff_ne]; omega
    cases ok with
    | false =>
      have hno : postF bal es = none := by rw [HPF.out, if_neg]; rintro ⟨h1, _⟩; cases h1
      have HV := Lib.hid hno
      clear hno h0
      go_enter Try.func10, Try.ntmps10
      go_wp2_with fail
      refine HNET.out.mono ?_
      rintro e w1 ⟨rfl, hb1⟩
      have HB1 := Lib.hid hb1
      clear hb1
      go_wp2
      go_ret
      exact post_no HV.out (H.out.below HB1.out)
    | true =>
      by_cases hz : nv = 0
      · subst hz
        have hyes : postF bal es = behindF bal es := by
          rw [HPF.out, if_pos]
          exact ⟨rfl, fun he => h0 (by rw [← HLEN.out, he]; rfl)⟩
        have HV := Lib.hid hyes
        have hn64 : n ≤ 64 := by have := HOK.out rfl; rw [HLEN.out] at this; exact this
        clear hyes h0
        go_enter Try.func10, Try.ntmps10
        go_wp2_with fail
        refine HNET.out.mono ?_
        rintro e w1 ⟨rfl, hb1⟩
        have H1 := Lib.hid (H.out.below hb1); have HE1 := Lib.hid (HE.out.below hb1)
        clear hb1
        go_wp2_with fail
        refine (behind_calls A n c es H1.out HE1.out hn64 hl HBD.out).mono ?_
        show ∀ e w', BehindPost (behindF bal es) w1 e w' → _
        intro e w2 hbp
        have HV2 := Lib.hid (show postF bal es = behindF bal es from HV.out)
        cases hr : behindF bal es with
        | none =>
          rw [hr] at hbp
          obtain ⟨rfl, hb2⟩ := hbp
          have HVN := Lib.hid (HV.out.trans hr)
          have H2 := Lib.hid (H1.out.below hb2)
          clear hb2 hr HV2 HV
          go_wp2
          go_ret
          exact post_no HVN.out H2.out
        | some v =>
          rw [hr] at hbp
          obtain ⟨R, a, cap, rfl, hR, hS⟩ := hbp
          have HVN := Lib.hid (HV.out.trans hr)
          obtain ⟨R0, a0, cap0, hR0, hS0⟩ := H1.out
          have hj := Sts.join [(g, scells a0 bal.length cap0 cnt, 49)] L (hS0.sub (((List.sublist_append_right R0 L)).cons_cons _)) hS
          have HJ := Lib.hid (show Sts w0 ((g, scells a0 bal.length cap0 cnt, 49) :: (R ++ L)) w2 from hj)
          have HR := Lib.hid hR
          have c0 := HJ.out.cell 0 0 rfl (v := .slice a0 bal.length cap0) rfl
          have c1 := HJ.out.cell 0 1 rfl (v := .int .i64 cnt) rfl
          have f0 := HJ.out.frozen 0 0 rfl
          have f1 := HJ.out.frozen 0 1 rfl
          clear hR hS hR0 hS0 hj hr HV2 HV
          go_wp2
          go_ret
          show PostGoes _ _ _ _ _ _ _ _
          rw [HVN.out]
          refine ⟨rfl, R, a, cap, HR.out, ?_⟩
          exact (HJ.out.set 0 0 (.slice a v.length cap) rfl).set 0 1 (.int .i64 ((cnt : Int) + 1)) rfl
      · have b2 : (nv != 0) = true := by rw [bne_iff_ne]; exact hz
        have hno : postF bal es = none := by rw [HPF.out, if_neg]; rintro ⟨h1, _⟩; exact hz (Prod.mk.inj h1).1
        have HV := Lib.hid hno
        clear hno h0
        go_enter Try.func10, Try.ntmps10
        go_wp2_with fail
        refine HNET.out.mono ?_
        rintro e w1 ⟨rfl, hb1⟩
        have HB1 := Lib.hid hb1
        clear hb1
        go_wp2
        go_ret
        exact post_no HV.out (H.out.below HB1.out)
end
end Go.Proofs.Ytideaimlnipkoaa

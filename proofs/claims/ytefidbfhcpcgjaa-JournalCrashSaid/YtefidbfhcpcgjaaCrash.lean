import Derived.Test.YtefidbfhcpcgjaaJEq
namespace Go.Proofs.Ytefidbfhcpcgjaa
open Go.RowKit
set_option linter.unusedVariables false
set_option linter.unusedSimpArgs false
/-! ### A crash, as states of a medium -/
def cm (vs : List (List Int)) (Q : List Int) (f : Int) : Med := ⟨framesL 1 vs ++ Q, (framesL 1 vs ++ Q).length, false, f, false⟩
/-- Behind the whole frames: nothing, or a beginning of one. -/
def Rest (vs : List (List Int)) (Q : List Int) : Prop := Q = [] ∨ (0 < Q.length ∧ openL (framesL 1 vs ++ Q) (framesL 1 vs).length = ([], 0, 0, 1))
def cst (ts : List (List Int)) (F i : Nat) : Med := ⟨framesL 1 (ts.take i), (framesL 1 (ts.take i)).length, false, ((F - 2 * i : Nat) : Int), true⟩
structure Mid (ts : List (List Int)) (i : Nat) (s : Med) : Prop where
  ok : s.Ok
  firm : s.firm = (framesL 1 (ts.take i)).length
  b : s.b = framesL 1 (ts.take i) ∨ ∃ t, ts[i]? = some t ∧ s.b = framesL 1 (ts.take i) ++ sealL (1 + i) t
  le : i ≤ ts.length
theorem cst_ok {ts : List (List Int)} (hs : Small ts) (F i : Nat) (hF : F ≤ 25) : (cst ts F i).Ok := by
  have hl := frm_len hs i
  have hf : Fit (ts.take i) := fun t ht => hs.fit t (List.mem_of_mem_take ht)
  exact ⟨frames_byt hf 1, by show (framesL 1 (ts.take i)).length ≤ _; omega, Nat.le_refl _, by show _ ≤ ((F - 2 * i : Nat) : Int); omega, by show ((F - 2 * i : Nat) : Int) ≤ _; omega, fun _ => by show 0 ≤ ((F - 2 * i : Nat) : Int); omega⟩
theorem cst_mid {ts : List (List Int)} (hs : Small ts) (F i : Nat) (hF : F ≤ 25) (hi : i ≤ ts.length) : Mid ts i (cst ts F i) := ⟨cst_ok hs F i hF, rfl, .inl rfl, hi⟩
theorem crash_step {ts : List (List Int)} (hs : Small ts) {F i : Nat} {t : List Int} (hF : F ≤ 25) (ht : ts[i]? = some t) (h2 : 2 * i ≤ F) :
    (jadd (cst ts F i) i false t = (0, cst ts F (i + 1), i + 1, false) ∧ 2 * (i + 1) ≤ F) ∨ ∃ s', jadd (cst ts F i) i false t = (7, s', i, true) ∧ Mid ts i s' := by
  have hn := frames_next 1 ht
  have hi := (List.getElem?_eq_some_iff.1 ht).1
  obtain ⟨hb, hl⟩ := hs.fit t (List.mem_of_getElem? ht)
  have hok := cst_ok hs F i hF
  have hle := frm_len hs i
  have hsl := seal_len ((i : Int) + 1) t
  have hl2 : (cst ts F i).b.length + (sealL ((i : Int) + 1) t).length ≤ 200000 := by
    show (framesL 1 (ts.take i)).length + _ ≤ _
    have := (hs.2 t (List.mem_of_getElem? ht)).2
    omega
  have hoka := hok.append (seal_byt ((i : Int) + 1) hb) hl2
  have hokf := hoka.flush
  rcases (by omega : F = 2 * i ∨ F = 2 * i + 1 ∨ 2 * (i + 1) ≤ F) with h | h | h
  · right
    have e : (F - 2 * i : Nat) = 0 := by omega
    have e1 : (cst ts F i).append (sealL ((i : Int) + 1) t) = (7, { cst ts F i with off := true }) := by
      unfold Med.append Med.goes cst; simp [e]
    refine ⟨{ cst ts F i with off := true }, ?_, ?_⟩
    · unfold jadd; simp [e1]
    · rw [e1] at hoka
      exact ⟨hoka, rfl, .inl rfl, by omega⟩
  · right
    have e : (F - 2 * i : Nat) = 1 := by omega
    have e1 : (cst ts F i).append (sealL ((i : Int) + 1) t) = (0, ⟨framesL 1 (ts.take i) ++ sealL ((i : Int) + 1) t, (framesL 1 (ts.take i)).length, false, 0, true⟩) := by
      unfold Med.append Med.goes cst; simp [e]
    have e2 : (Med.flush ⟨framesL 1 (ts.take i) ++ sealL ((i : Int) + 1) t, (framesL 1 (ts.take i)).length, false, 0, true⟩) = (7, ⟨framesL 1 (ts.take i) ++ sealL ((i : Int) + 1) t, (framesL 1 (ts.take i)).length, true, 0, true⟩) := by
      unfold Med.flush Med.goes; simp
    refine ⟨⟨framesL 1 (ts.take i) ++ sealL ((i : Int) + 1) t, (framesL 1 (ts.take i)).length, true, 0, true⟩, ?_, ?_⟩
    · unfold jadd; simp [e1, e2]
    · rw [e1] at hokf
      simp only [e2] at hokf
      exact ⟨hokf, rfl, .inr ⟨t, ht, by rw [Int.add_comm 1 (i : Int)]⟩, by omega⟩
  · left
    refine ⟨?_, h⟩
    have e0 : ¬ (((F - 2 * i : Nat) : Int) = 0) := by omega
    have e00 : ¬ (((F - 2 * i : Nat) : Int) - 1 = 0) := by omega
    have e3 : ((F - 2 * i : Nat) : Int) - 1 - 1 = ((F - 2 * (i + 1) : Nat) : Int) := by omega
    have e1 : (cst ts F i).append (sealL ((i : Int) + 1) t) = (0, ⟨framesL 1 (ts.take i) ++ sealL ((i : Int) + 1) t, (framesL 1 (ts.take i)).length, false, ((F - 2 * i : Nat) : Int) - 1, true⟩) := by
      unfold Med.append Med.goes cst
      simp only [Bool.false_eq_true, if_false, if_true, if_neg e0]
    have e2 : (Med.flush ⟨framesL 1 (ts.take i) ++ sealL ((i : Int) + 1) t, (framesL 1 (ts.take i)).length, false, ((F - 2 * i : Nat) : Int) - 1, true⟩) = (0, cst ts F (i + 1)) := by
      unfold Med.flush Med.goes cst
      simp only [Bool.false_eq_true, if_false, if_true, if_neg e00]
      rw [hn, Int.add_comm 1 (i : Int), e3]
    unfold jadd; simp [e1, e2]
theorem boot_mid {ts : List (List Int)} (hs : Small ts) {i : Nat} {s : Med} (h : Mid ts i s) {K : Int} (hK : 0 ≤ K) :
    ∃ q Q f, s.boot K = cm (ts.take q) Q f ∧ Rest (ts.take q) Q ∧ i ≤ q ∧ q ≤ i + 1 ∧ q ≤ ts.length ∧ (framesL 1 (ts.take q) ++ Q).length ≤ 600 := by
  have hfl := frm_len hs i
  have hfl1 := frm_len hs (i + 1)
  have hle := h.le
  obtain ⟨b, firm, off, fuse, lit⟩ := s
  obtain ⟨hok, hf, hb, hle⟩ := h
  simp only at hf hb
  subst hf
  rcases hb with rfl | ⟨t, ht, rfl⟩
  · refine ⟨i, [], fuse, ?_, .inl rfl, Nat.le_refl _, by omega, hle, by rw [List.append_nil]; omega⟩
    unfold Med.boot Med.keep cm
    simp only [List.append_nil]
    have e : (framesL 1 (ts.take i)).length + (max 0 (min K (((framesL 1 (ts.take i)).length : Int) - (framesL 1 (ts.take i)).length))).toNat = (framesL 1 (ts.take i)).length := by omega
    rw [e, List.take_of_length_le (Nat.le_refl _)]
  · have hi := (List.getElem?_eq_some_iff.1 ht).1
    obtain ⟨hbt, hlt⟩ := hs.fit t (List.mem_of_getElem? ht)
    obtain ⟨c, hc⟩ : ∃ c : Nat, c = (max 0 (min K (((framesL 1 (ts.take i) ++ sealL (1 + i) t).length : Int) - (framesL 1 (ts.take i)).length))).toNat := ⟨_, rfl⟩
    have hc1 : c ≤ t.length + 10 := by rw [hc, List.length_append, seal_len]; omega
    have hboot : Med.boot ⟨framesL 1 (ts.take i) ++ sealL (1 + i) t, (framesL 1 (ts.take i)).length, off, fuse, lit⟩ K = cm (ts.take i) ((sealL (1 + i) t).take c) fuse := by
      have e : (framesL 1 (ts.take i) ++ sealL (1 + i) t).take ((framesL 1 (ts.take i)).length + c) = framesL 1 (ts.take i) ++ (sealL (1 + i) t).take c := List.take_length_add_append _
      unfold Med.boot Med.keep cm
      simp only
      rw [← hc, e, List.length_append, List.length_take, seal_len, Nat.min_eq_left hc1]
    by_cases hcf : c = t.length + 10
    · refine ⟨i + 1, [], fuse, ?_, .inl rfl, by omega, Nat.le_refl _, by omega, by rw [List.append_nil]; omega⟩
      rw [hboot, List.take_of_length_le (l := sealL (1 + i) t) (by rw [seal_len]; omega)]
      unfold cm
      rw [frames_next 1 ht, List.append_nil]
    · have hlq : (framesL 1 (ts.take i) ++ (sealL (1 + i) t).take c).length ≤ 600 := by
        have := (hs.2 t (List.mem_of_getElem? ht)).2
        rw [List.length_append, List.length_take, seal_len]; omega
      refine ⟨i, (sealL (1 + i) t).take c, fuse, hboot, ?_, Nat.le_refl _, by omega, hle, hlq⟩
      by_cases h0 : c = 0
      · left; rw [h0]; rfl
      · right
        refine ⟨by rw [List.length_take, seal_len]; omega, ?_⟩
        exact open_cut _ t _ c hlt (by omega)
theorem cm_lies {vs : List (List Int)} (hf : Fit vs) (hl : vs.length ≤ 100000) (Q : List Int) (f : Int) : Lies (cm vs Q f).b vs := lies_app hf hl Q
theorem cm_ok {vs : List (List Int)} (hf : Fit vs) {Q : List Int} (hq : Byt Q) {f : Int} (h0 : -9223372036854775808 ≤ f) (h1 : f ≤ 9223372036854775807) (hl : (framesL 1 vs ++ Q).length ≤ 200000) : (cm vs Q f).Ok :=
  ⟨(frames_byt hf 1).app hq, hl, Nat.le_refl _, h0, h1, fun h => by cases h⟩
theorem cm_add {ws : List (List Int)} {t : List Int} {f : Int} {n : Nat} (hn : ws.length = n) : jadd (cm ws [] f) n false t = (0, cm (ws ++ [t]) [] f, n + 1, false) := by
  subst hn
  unfold cm
  rw [frames_snoc, Int.add_comm 1 (ws.length : Int)]
  simp only [List.append_nil]
  rfl
section
variable {w0 W : World} {A B : List Ent} {g : Nat}
/-- Opened behind a boot: all whole frames are there, what is behind them is cut. -/
theorem jopen_boot {vs : List (List Int)} {Q : List Int} {f : Int} {N : Nat} (h : MedAt w0 A B g (cm vs Q f) W) (hok : (cm vs Q f).Ok) (hf : Fit vs) (hl : vs.length ≤ 100000) (hb : (framesL 1 vs ++ Q).length ≤ 100000) (hr : Rest vs Q) (hN : vs.length = N) :
    Calls Try.prog 37 #[.pointer (some ⟨g, 0, none⟩)] W fun e w' => ∃ gj Rs a c, e = .returned (.tuple #[.pointer (some ⟨gj, 0, none⟩), .slice a N c, .int .i64 0]) ∧ Texts Rs a N c vs ∧ MedAt w0 A ((gj, jcells g N false, 72) :: (Rs ++ B)) g (cm vs [] f) w' := by
  subst hN
  have hoe : off vs vs.length = (framesL 1 vs).length := off_all vs 1 (Nat.le_refl _)
  rcases hr with rfl | ⟨h1, h2⟩
  · have hbl : off vs vs.length = (cm vs [] f).b.length := by rw [hoe]; show _ = (framesL 1 vs ++ []).length; rw [List.append_nil]
    exact jopen_ok (ts := vs) (v := 0) h hok rfl hb (cm_lies hf hl [] f) (.inl hbl) (.inl ⟨hbl, rfl, rfl⟩) rfl
  · have hlt : off vs vs.length < (cm vs Q f).b.length := by rw [hoe]; show _ < (framesL 1 vs ++ Q).length; rw [List.length_append]; omega
    refine jopen_ok (ts := vs) (v := 0) h hok rfl hb (cm_lies hf hl Q f) (.inr (by rw [hoe]; exact h2)) (.inr ⟨hlt, ?_⟩) rfl
    rw [hoe]
    unfold Med.cut
    rw [if_neg (by show ¬ (_ ∨ ((framesL 1 vs ++ Q).length : Int) < _); rw [List.length_append]; omega)]
    have : (cm vs Q f).goes = (true, cm vs Q f) := rfl
    rw [this]
    simp only [if_true]
    unfold Med.keep cm
    simp
/-- Opened with a fuse: as it may. -/
theorem jopen_any {vs : List (List Int)} {Q : List Int} {f : Int} {G : Nat} (hG : G ≤ 1) (h : MedAt w0 A B g ((cm vs Q f).arm G) W) (hok : (cm vs Q f).Ok) (hf : Fit vs) (hl : vs.length ≤ 100000) (hb : (framesL 1 vs ++ Q).length ≤ 100000) (hr : Rest vs Q) :
    Calls Try.prog 37 #[.pointer (some ⟨g, 0, none⟩)] W fun e w' => ∃ pv a n c v, e = .returned (.tuple #[pv, .slice a n c, .int .i64 v]) ∧ (v = 0 ∨ (v = 7 ∧ n = 0)) ∧ ∃ s3 Q' f', MedAt w0 A B g s3 w' ∧ s3.Ok ∧ s3.boot 0 = cm vs Q' f' ∧ Rest vs Q' ∧ (framesL 1 vs ++ Q').length ≤ 100000 ∧ -9223372036854775808 ≤ f' ∧ f' ≤ 9223372036854775807 ∧ Byt Q' := by
  have hoe : off vs vs.length = (framesL 1 vs).length := off_all vs 1 (Nat.le_refl _)
  have hoka : ((cm vs Q f).arm G).Ok := hok.arm (by omega) (by omega)
  have hbq : Byt Q := fun x hx => hok.byt x (List.mem_append_right _ hx)
  have harm : (cm vs Q f).arm G = ⟨framesL 1 vs ++ Q, (framesL 1 vs ++ Q).length, false, G, true⟩ := by unfold Med.arm cm; simp
  rw [harm] at h hoka
  rcases hr with rfl | ⟨h1, h2⟩
  · have hbl : off vs vs.length = (framesL 1 vs ++ []).length := by rw [hoe, List.append_nil]
    refine (jopen_ok (ts := vs) (v := 0) h hoka rfl hb (cm_lies hf hl [] f) (.inl hbl) (.inl ⟨hbl, rfl, rfl⟩) rfl).mono ?_
    rintro e w' ⟨gj, Rs, a, c, rfl, _, hm⟩
    refine ⟨_, a, _, c, 0, rfl, .inl rfl, _, [], (G : Int), hm.subB (List.Sublist.cons _ (List.sublist_append_right _ _)), hoka, ?_, .inl rfl, hb, by omega, by omega, Byt.nil⟩
    unfold Med.boot Med.keep cm
    simp only
    have e : (framesL 1 vs ++ []).length + (max 0 (min 0 (((framesL 1 vs ++ []).length : Int) - (framesL 1 vs ++ []).length))).toNat = (framesL 1 vs ++ []).length := by omega
    rw [e, List.take_of_length_le (Nat.le_refl _)]
  · have hlt : off vs vs.length < (framesL 1 vs ++ Q).length := by rw [hoe, List.length_append]; omega
    have hncut : ¬ (((off vs vs.length : Nat) : Int) < 0 ∨ ((framesL 1 vs ++ Q).length : Int) < (off vs vs.length : Nat)) := by omega
    rcases (by omega : G = 0 ∨ G = 1) with rfl | rfl
    ·
      have hcut : Med.cut ⟨framesL 1 vs ++ Q, (framesL 1 vs ++ Q).length, false, ((0 : Nat) : Int), true⟩ (off vs vs.length : Nat) = (7, ⟨framesL 1 vs ++ Q, (framesL 1 vs ++ Q).length, true, ((0 : Nat) : Int), true⟩) := by
        unfold Med.cut; rw [if_neg hncut]; rfl
      refine (jopen_down (ts := vs) h hoka rfl hb (cm_lies hf hl Q f) (by rw [hoe]; exact h2) hlt hcut).mono ?_
      rintro e w' ⟨rfl, hm⟩
      have hok7 := hoka.cut (off vs vs.length : Nat)
      rw [hcut] at hok7
      refine ⟨_, none, 0, 0, 7, rfl, .inr ⟨rfl, rfl⟩, _, Q, 0, hm, hok7, ?_, .inr ⟨h1, h2⟩, hb, by omega, by omega, hbq⟩
      unfold Med.boot Med.keep cm
      simp only
      have e : (framesL 1 vs ++ Q).length + (max 0 (min 0 (((framesL 1 vs ++ Q).length : Int) - (framesL 1 vs ++ Q).length))).toNat = (framesL 1 vs ++ Q).length := by omega
      rw [e, List.take_of_length_le (Nat.le_refl _)]; rfl
    ·
      have hcut : Med.cut ⟨framesL 1 vs ++ Q, (framesL 1 vs ++ Q).length, false, ((1 : Nat) : Int), true⟩ (off vs vs.length : Nat) = (0, ⟨framesL 1 vs, (framesL 1 vs).length, false, 0, true⟩) := by
        unfold Med.cut; rw [if_neg hncut, hoe]
        have : Med.goes ⟨framesL 1 vs ++ Q, (framesL 1 vs ++ Q).length, false, ((1 : Nat) : Int), true⟩ = (true, ⟨framesL 1 vs ++ Q, (framesL 1 vs ++ Q).length, false, 0, true⟩) := rfl
        rw [this]
        unfold Med.keep
        simp
      refine (jopen_ok (ts := vs) (v := 0) h hoka rfl hb (cm_lies hf hl Q f) (.inr (by rw [hoe]; exact h2)) (.inr ⟨hlt, hcut⟩) rfl).mono ?_
      rintro e w' ⟨gj, Rs, a, c, rfl, _, hm⟩
      have hok7 := hoka.cut (off vs vs.length : Nat)
      rw [hcut] at hok7
      refine ⟨_, a, _, c, 0, rfl, .inl rfl, _, [], 0, hm.subB (List.Sublist.cons _ (List.sublist_append_right _ _)), hok7, ?_, .inl rfl, by rw [List.append_nil]; rw [List.length_append] at hb; omega, by omega, by omega, Byt.nil⟩
      unfold Med.boot Med.keep cm
      simp
end
end Go.Proofs.Ytefidbfhcpcgjaa

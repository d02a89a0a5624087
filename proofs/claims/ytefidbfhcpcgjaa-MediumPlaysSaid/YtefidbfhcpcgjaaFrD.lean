import Derived.Test.YtefidbfhcpcgjaaFrC
namespace Go.Proofs.Ytefidbfhcpcgjaa
open Go.RowKit
set_option linter.unusedVariables false
set_option linter.unusedSimpArgs false
def Opened (r : List Int × Int × Int × Int) (W : World) (E : Ending) (W' : World) : Prop :=
  ∃ R a c m, E = .returned (.tuple #[.slice a m c, .int .i64 r.2.1, .int .i64 r.2.2.1, .int .i64 r.2.2.2]) ∧ Row R 5 1 a m c (bs r.1) ∧ Sts W R W'
theorem Opened.none_ {r : List Int × Int × Int × Int} {how : Int} (W : World) (h : r = ([], 0, 0, how)) {W' : World} (hb : Below W.heap.size W W') : Opened r W (.returned (.tuple #[.slice none 0 0, .int .i64 0, .int .i64 0, .int .i64 how])) W' := by
  subst h; exact ⟨[], none, 0, 0, rfl, Row.nil _ _, (Sts.nil W).below hb⟩
theorem quiet_same {P : Program} {f : FuncId} {args : Array Value} {w : World} {n : Nat} {v : Value}
    (h : Calls P f args (w.drewN n) fun e w' => e = .returned v ∧ w.drewN n = w') : Calls P f args (w.drewN n) fun e w'' => e = .returned v ∧ ∃ m, w'' = w.drewN m :=
  h.mono fun _ _ ⟨he, hm⟩ => ⟨he, n, hm.symm⟩
theorem results_tmp4 {fn : Func} {t u v x : Tmp} (h : fn.results = #[.tmp t, .tmp u, .tmp v, .tmp x]) (tmps : Array Value) (P : Program) (w : World) :
    (results fn tmps).run P w = .ok (.tuple #[tmps.getD t undef, tmps.getD u undef, tmps.getD v undef, tmps.getD x undef]) w := by
  simp [results, h]
section
variable {W W' : World} {A : Option Addr} {n : Nat} {l : List Int} {xs : List Value} {size : Nat}
theorem Src.low (h : Src W A n 1 (bs l)) {k : Nat} (hk : k ≤ n) : Src W (Option.map (fun x => x.add k) A) (n - k) 1 (bs (l.drop k)) := by
  have hl := h.len
  refine ⟨by simp [bs]; omega, fun h0 => ?_⟩
  obtain ⟨ad, rfl, hcell⟩ := h.2 (by omega)
  refine ⟨_, rfl, fun j u hu => ?_⟩
  rw [add_of_add]
  refine hcell _ u ?_
  rw [← hu, ← bs_drop, List.getElem?_drop]
theorem add_lit (A : Option Addr) (k : Nat) : Option.map (fun x => x.add (k + 1)) A = Option.map (fun x => (⟨x.block, x.off + (k + 1), none⟩ : Addr)) A := by
  congr 1
theorem Src.drew (h : Src W A n size xs) : Src W.drew A n size xs := h
theorem Src.drewN (h : Src W A n size xs) (k : Nat) : Src (W.drewN k) A n size xs := h
end
theorem open_eq {b : List Int} {p : Nat} (r : List Int) (hr : b.drop p = r) (h : 8 ≤ r.length) {N S X : Int} (hN : N = num (r.take 2)) (hS : S = sm (r.take 6)) (hX : X = num ((r.drop 6).take 2)) :
    openL b p = if S ≠ X ∨ 60000 < N then ([], 0, 0, 2) else if (r.length : Int) - 8 < N + 2 then ([], 0, 0, 1)
      else if sm ((r.drop 8).take N.toNat) ≠ num ((r.drop (8 + N.toNat)).take 2) then ([], 0, 0, 2)
      else ((r.drop 8).take N.toNat, num ((r.drop 2).take 4), p + 8 + N + 2, 0) := by
  subst hr hN hS hX
  unfold openL
  simp only
  rw [if_neg (by omega)]
theorem num_bd2 {l : List Int} (hb : Byt l) (h : l.length = 2) : 0 ≤ num l ∧ num l ≤ 65535 := by
  obtain ⟨a, c, rfl⟩ := two_of h
  have h1 := hb a (by simp); have h2 := hb c (by simp)
  rw [num_pair]; omega
set_option maxHeartbeats 4000000 in
set_option maxRecDepth 100000 in
theorem open_calls (b : List Int) (A : Option Addr) (n cap p : Nat) (w : World) (hs : Src w A n 1 (bs b)) (hc : n ≤ cap) (hc2 : cap ≤ 9223372036854775807) (hb : Byt b) (hn : n ≤ 100000) (h1 : p ≤ n) :
    Calls Try.prog 35 #[.slice A n cap, .int .i64 p] w (Opened (openL b p) w) := by
  have hl := hs.len
  have hr := hs.low (k := p) h1
  have hrl : (b.drop p).length = n - p := by rw [List.length_drop, hl]
  have hrb := hb.drop p
  have hq : p ≤ cap := by omega
  obtain ⟨rr, hrr⟩ : ∃ r, b.drop p = r := ⟨_, rfl⟩
  rw [hrr] at hr hrl hrb
  have HR := Lib.hid hr
  have HRL := Lib.hid hrl
  have HRB := Lib.hid hrb
  have HRR := Lib.hid hrr
  obtain ⟨r, hre⟩ : ∃ r, r = openL b p := ⟨_, rfl⟩
  rw [← hre]
  have HRE := Lib.hid hre
  clear hs hb hr hrl hrb hre hrr hl
  by_cases g1 : n - p < 8
  · have hres : r = ([], 0, 0, 1) := by rw [HRE.out]; exact open_short (by rw [HRR.out, HRL.out]; exact g1)
    have HRES := Lib.hid hres
    clear hres
    go_enter Try.func35, Try.ntmps35
    go_wp2
    all_goals
      refine bodyPost_ret (results_tmp4 rfl _ _ _) rfl ?_
      exact Opened.none_ w HRES.out (Below.refl _ _)
  · have hm : rr.drop 0 = rr := rfl
    have l2 : (rr.take 2).length = 2 := by rw [List.length_take, HRL.out]; omega
    obtain ⟨n0, n1⟩ := num_bd2 (HRB.out.take 2) l2
    obtain ⟨s0, s1⟩ := sm_bd (rr.take 6)
    have l6 : ((rr.drop 6).take 2).length = 2 := by rw [List.length_take, List.length_drop, HRL.out]; omega
    obtain ⟨x0, x1⟩ := num_bd2 ((HRB.out.drop 6).take 2) l6
    have heq := open_eq rr HRR.out (by rw [HRL.out]; omega) (N := num (rr.take 2)) (S := sm (rr.take 6)) (X := num ((rr.drop 6).take 2)) rfl rfl rfl
    have hn2 := num_calls _ 2 (cap - p) _ w (HR.out.cutHi (k := 2) (by omega)) (HRB.out.take 2) (by omega)
    have hs6 := fun W (h : Src W (Option.map (fun x => x.add p) A) (n - p) 1 (bs rr)) => fsum_calls _ 6 (cap - p) _ W (h.cutHi (k := 6) (by omega)) (HRB.out.take 6) (by omega)
    have hx6 := fun W (h : Src W (Option.map (fun x => x.add p) A) (n - p) 1 (bs rr)) => num_calls _ 2 (cap - p - 6) _ W ((h.low (k := 6) (by omega)).cutHi (k := 2) (by omega)) ((HRB.out.drop 6).take 2) (by omega)
    clear hm l2 l6
    generalize num (rr.take 2) = N at *
    generalize sm (rr.take 6) = S at *
    generalize num ((rr.drop 6).take 2) = X at *
    obtain ⟨N, rfl⟩ := Int.eq_ofNat_of_zero_le n0
    rw [← HRE.out, HRL.out] at heq
    rw [Int.toNat_natCast] at heq
    have HEQ := Lib.hid heq
    have HN2 := Lib.hid hn2
    have HS6 := Lib.hid hs6
    have HX6 := Lib.hid hx6
    clear heq hn2 hs6 hx6
    have k1 : 8 ≤ n - p := by omega
    have k2 : n - p ≤ cap - p := by omega
    have k3 : (n - p) + p = n := by omega
    have k4 : (6 : Int) ≤ ((cap - p : Nat) : Int) := by omega
    have k5 : (8 : Int) ≤ ((cap - p : Nat) : Int) := by omega
    go_enter Try.func35, Try.ntmps35
    go_wp2_with fail
    refine HN2.out.mono ?_
    rintro e w' ⟨rfl, rfl⟩
    generalize Option.map (fun x => x.add p) A = A2 at *
    generalize n - p = m at *
    generalize cap - p = cq at *
    by_cases c1 : S = X
    · have b1 : (S != X) = false := by rw [bne_eq_false_iff_eq]; exact c1
      by_cases c2 : 60000 < (N : Int)
      · have b2 : decide (60000 < (N : Int)) = true := decide_eq_true c2
        have hres : r = ([], 0, 0, 2) := by rw [HEQ.out, if_pos (.inr c2)]
        have HRES := Lib.hid hres
        clear hres c1
        go_upto_region 7 with fail
        go_quiet ((first | (go_at_call 20; exact quiet_same (HS6.out _ (HR.out.drewN _))) | (go_at_call 47; exact quiet_same (HX6.out _ (HR.out.drewN _)))))
        go_wp2
        refine bodyPost_ret (results_tmp4 rfl _ _ _) rfl ?_
        exact Opened.none_ w HRES.out (bel_drewN (Below.refl _ _) _)
      · have b2 : decide (60000 < (N : Int)) = false := decide_eq_false c2
        have hN6 : N ≤ 60000 := by omega
        have heq2 := HEQ.out
        rw [if_neg (by omega)] at heq2
        have HEQ2 := Lib.hid heq2
        clear heq2 HEQ c1 c2
        go_upto_region 7 with fail
        go_quiet ((first | (go_at_call 20; exact quiet_same (HS6.out _ (HR.out.drewN _))) | (go_at_call 47; exact quiet_same (HX6.out _ (HR.out.drewN _)))))
        clear HS6 HX6
        have HR1 := Lib.hid (HR.out.drewN nq)
        have HB1 := Lib.hid (bel_drewN (Below.refl w.heap.size w) nq)
        clear HR
        generalize w.drewN nq = w1 at *
        by_cases c3 : (m : Int) - 8 < (N : Int) + 2
        · have hres : r = ([], 0, 0, 1) := by rw [HEQ2.out, if_pos c3]
          have HRES := Lib.hid hres
          have b3 : decide ((m : Int) - 8 < (N : Int) + 2) = true := decide_eq_true c3
          clear hres
          go_wp2
          refine bodyPost_ret (results_tmp4 rfl _ _ _) rfl ?_
          exact Opened.none_ w HRES.out HB1.out
        · have b3 : decide ((m : Int) - 8 < (N : Int) + 2) = false := decide_eq_false c3
          have heq3 := HEQ2.out
          rw [if_neg c3] at heq3
          have HEQ3 := Lib.hid heq3
          have k6 : N + 10 ≤ m := by omega
          clear heq3 HEQ2 c3
          have ht := (HR1.out.low (k := 8) (by omega)).cutHi (k := N) (by omega)
          have ht := (show Src w1 (Option.map (fun x => (⟨x.block, x.off + 8, none⟩ : Addr)) A2) N 1 _ from (add_lit A2 7) ▸ ht)
          have hu := (HR1.out.low (k := 8 + N) (by omega)).cutHi (k := 2) (by omega)
          have HTB := Lib.hid ((HRB.out.drop 8).take N)
          have l2 : ((rr.drop (8 + N)).take 2).length = 2 := by rw [List.length_take, List.length_drop, HRL.out]; omega
          obtain ⟨y0, y1⟩ := num_bd2 ((HRB.out.drop (8 + N)).take 2) l2
          obtain ⟨v0, v1⟩ := sm_bd ((rr.drop 8).take N)
          have hs12 := fun W (h : Src W (Option.map (fun x => (⟨x.block, x.off + 8, none⟩ : Addr)) A2) N 1 (bs ((rr.drop 8).take N))) => fsum_calls _ N (cq - 8) _ W h HTB.out (by omega)
          have hx12 := fun W (h : Src W (Option.map (fun x => x.add (8 + N)) A2) 2 1 (bs ((rr.drop (8 + N)).take 2))) => num_calls _ 2 (cq - (8 + N)) _ W h ((HRB.out.drop (8 + N)).take 2) (by omega)
          generalize hSt : sm ((rr.drop 8).take N) = St at *
          generalize hXt : num ((rr.drop (8 + N)).take 2) = Xt at *
          have HT := Lib.hid ht
          have HU := Lib.hid hu
          have HS12 := Lib.hid hs12
          have HX12 := Lib.hid hx12
          have h1 : IntKind.i64.wrap (8 + (N : Int)) = 8 + (N : Int) := IntWalk.i64_in _ (by omega)
          have h2 : IntKind.i64.wrap (8 + (N : Int) + 2) = 8 + (N : Int) + 2 := IntWalk.i64_in _ (by omega)
          have h3 : (8 + (N : Int)).toNat = 8 + N := by omega
          have h4 : (8 + (N : Int) + 2).toNat = 8 + N + 2 := by omega
          have h5 : (0 : Int) ≤ 8 + (N : Int) := by omega
          have h6 : 8 + (N : Int) ≤ 8 + (N : Int) + 2 := by omega
          have h7 : 8 + (N : Int) + 2 ≤ (cq : Int) := by omega
          clear ht hu hs12 hx12 hSt hXt l2
          go_upto_region 12 with fail
          by_cases c4 : St = Xt
          · have b4 : (St != Xt) = false := by rw [bne_eq_false_iff_eq]; exact c4
            have hres : r = ((rr.drop 8).take N, num ((rr.drop 2).take 4), (p : Int) + 8 + N + 2, 0) := by rw [HEQ3.out, if_neg (by simpa using c4)]
            have HRES := Lib.hid hres
            clear hres c4 HEQ3
            go_quiet ((first | (go_at_call 20; exact quiet_same (HS12.out _ (HT.out.drewN _))) | (go_at_call 47; exact quiet_same (HX12.out _ (HU.out.drewN _)))))
            clear HS12 HX12 h1 h2 h3 h4 h5 h6 h7
            obtain ⟨ad, hA2, _⟩ := HR1.out.2 (by omega)
            have hv := (HR1.out.low (k := 2) (by omega)).cutHi (k := 4) (by omega)
            have hv := (show Src w1 (Option.map (fun x => (⟨x.block, x.off + 2, none⟩ : Addr)) A2) 4 1 _ from (add_lit A2 1) ▸ hv)
            have ht := HT.out
            rw [hA2] at hv ht
            have HVB := Lib.hid ((HRB.out.drop 2).take 4)
            have HV := Lib.hid (hv.drewN nq)
            have HT2 := Lib.hid (ht.drewN nq)
            have HB2 := Lib.hid (bel_drewN HB1.out nq)
            subst hA2
            clear hv ht HT HU HR1 HB1
            generalize w1.drewN nq = w2 at *
            generalize hq4 : num ((rr.drop 2).take 4) = sq at *
            have HQ4 := Lib.hid hq4
            clear hq4
            have h1 : IntKind.i64.wrap ((p : Int) + 8) = (p : Int) + 8 := IntWalk.i64_in _ (by omega)
            have h2 : IntKind.i64.wrap ((p : Int) + 8 + N) = (p : Int) + 8 + N := IntWalk.i64_in _ (by omega)
            have h3 : IntKind.i64.wrap ((p : Int) + 8 + N + 2) = (p : Int) + 8 + N + 2 := IntWalk.i64_in _ (by omega)
            go_upto_region 14 with fail
            go_region_with (first
              | (go_at_call 46; refine (clone_some _ N (cq - 8) _ _ HT2.out.drew (bs_one _) (by omega)).mono ?_; rintro e w3 ⟨R3, a3, c3, rfl, hR3, hS3⟩)
              | (go_at_call 47; refine (num_calls _ 4 (cq - 2) _ _ (HV.out.drew.below hS3.bel) HVB.out (by omega)).mono ?_; rintro e w4 ⟨rfl, rfl⟩))
            have HRR3 := Lib.hid hR3
            have HSS3 := Lib.hid (Sts.rebase HB2.out.drew hS3)
            clear hR3 hS3 h1 h2 h3
            go_wp2
            refine bodyPost_ret (results_tmp4 rfl _ _ _) rfl ?_
            exact ⟨R3, a3, c3, N, by rw [HRES.out, HQ4.out]; rfl, by rw [HRES.out]; exact HRR3.out, HSS3.out⟩
          · have b4 : (St != Xt) = true := by rw [bne_iff_ne]; exact c4
            have hres : r = ([], 0, 0, 2) := by rw [HEQ3.out, if_pos (by simpa using c4)]
            have HRES := Lib.hid hres
            clear hres c4
            go_quiet ((first | (go_at_call 20; exact quiet_same (HS12.out _ (HT.out.drewN _))) | (go_at_call 47; exact quiet_same (HX12.out _ (HU.out.drewN _)))))
            clear h1 h2 h3 h4 h5 h6 h7
            go_wp2
            refine bodyPost_ret (results_tmp4 rfl _ _ _) rfl ?_
            exact Opened.none_ w HRES.out (bel_drewN HB1.out _)
    · have b1 : (S != X) = true := by rw [bne_iff_ne]; exact c1
      have hres : r = ([], 0, 0, 2) := by rw [HEQ.out, if_pos (.inl c1)]
      have HRES := Lib.hid hres
      clear hres c1
      go_upto_region 7 with fail
      go_quiet ((first | (go_at_call 20; exact quiet_same (HS6.out _ (HR.out.drewN _))) | (go_at_call 47; exact quiet_same (HX6.out _ (HR.out.drewN _)))))
      go_wp2
      refine bodyPost_ret (results_tmp4 rfl _ _ _) rfl ?_
      exact Opened.none_ w HRES.out (bel_drewN (Below.refl _ _) _)
set_option maxHeartbeats 1000000 in
set_option maxRecDepth 100000 in
theorem open_out (A : Option Addr) (n cap : Nat) (p : Int) (w : World) (hn : n ≤ 100000) (h : p < 0 ∨ (n : Int) < p) :
    Calls Try.prog 35 #[.slice A n cap, .int .i64 p] w (Opened ([], 0, 0, 2) w) := by
  by_cases h0 : p < 0
  · have b1 : decide (p < 0) = true := decide_eq_true h0
    clear h
    go_enter Try.func35, Try.ntmps35
    go_wp2
    refine bodyPost_ret (results_tmp4 rfl _ _ _) rfl ?_
    exact Opened.none_ w rfl (Below.refl _ _)
  · have b1 : decide (p < 0) = false := decide_eq_false h0
    have b2 : decide ((n : Int) < p) = true := decide_eq_true (by omega)
    clear h h0
    go_enter Try.func35, Try.ntmps35
    go_wp2
    refine bodyPost_ret (results_tmp4 rfl _ _ _) rfl ?_
    exact Opened.none_ w rfl (Below.refl _ _)
end Go.Proofs.Ytefidbfhcpcgjaa

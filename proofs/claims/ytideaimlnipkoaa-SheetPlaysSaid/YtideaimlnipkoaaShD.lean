import Derived.Test.YtideaimlnipkoaaShC
namespace Go.Proofs.Ytideaimlnipkoaa
open Go.RowKit
set_option linter.unusedVariables false
set_option linter.unusedSimpArgs false
theorem ext_getD {α : Type} {d : α} {l m : List α} (hl : l.length = m.length) (h : ∀ i, i < m.length → l.getD i d = m.getD i d) : l = m := by
  apply List.ext_getElem hl
  intro i h1 h2
  have := h i h2
  rw [List.getD_eq_getElem?_getD, List.getD_eq_getElem?_getD, List.getElem?_eq_getElem h1, List.getElem?_eq_getElem h2] at this
  simpa using this
theorem getD_set_self' {α : Type} (d : α) (l : List α) (k : Nat) (v : α) (h : k < l.length) : (l.set k v).getD k d = v := by simp [List.getD_eq_getElem?_getD, h]
theorem getD_set_other' {α : Type} (d : α) (l : List α) {i k : Nat} (v : α) (h : i ≠ k) : (l.set k v).getD i d = l.getD i d := by
  simp only [List.getD_eq_getElem?_getD]; rw [List.getElem?_set_ne (Ne.symm h)]
theorem getD_map' {α β : Type} (d : α) (f : α → β) (l : List α) (i : Nat) : (l.map f).getD i (f d) = f (l.getD i d) := by
  simp only [List.getD_eq_getElem?_getD, List.getElem?_map]; cases l[i]? <;> rfl
/-- An entry more. -/
def post1 (b : List Int) (e : Int × Int) : List Int := b.set e.1.toNat (b.getD e.1.toNat 0 + e.2)
def postL (b : List Int) (es : List (Int × Int)) : List Int := es.foldl post1 b
theorem post1_length (b : List Int) (e : Int × Int) : (post1 b e).length = b.length := by unfold post1; simp
theorem postL_length : ∀ (es : List (Int × Int)) (b : List Int), (postL b es).length = b.length := by
  intro es
  induction es with
  | nil => intro b; rfl
  | cons e es ih => intro b; unfold postL at *; rw [List.foldl_cons, ih, post1_length]
theorem postL_snoc (b : List Int) (es : List (Int × Int)) (e : Int × Int) : postL b (es ++ [e]) = post1 (postL b es) e := by unfold postL; rw [List.foldl_append]; rfl
def thereB (n : Nat) (e : Int × Int) : Bool := decide (0 ≤ e.1) && decide (e.1 < (n : Int))
def behindF (bal : List Int) (es : List (Int × Int)) : Option (List Int) :=
  if es.all (thereB bal.length) then (if (postL bal es).all inB then some (postL bal es) else none) else none
/-- What behind hands back. -/
def BehindPost (r : Option (List Int)) (W : World) (e : Ending) (w' : World) : Prop :=
  match r with
  | some v => ∃ R a cap, e = .returned (.tuple #[.slice a v.length cap, .bool true]) ∧ Row R 3 1 a v.length cap (is v) ∧ Sts W R w'
  | none => e = .returned (.tuple #[.slice none 0 0, .bool false]) ∧ Below W.heap.size W w'
theorem behind_no {r : Option (List Int)} {W w' : World} (h : r = none) (hb : Below W.heap.size W w') : BehindPost r W (.returned (.tuple #[.slice none 0 0, .bool false])) w' := by subst h; exact ⟨rfl, hb⟩
theorem behind_not {bal : List Int} {es : List (Int × Int)} {e : Int × Int} {k : Nat} (h : es[k]? = some e) (hb : thereB bal.length e = false) : behindF bal es = none := by
  unfold behindF
  rw [if_neg]
  intro ha
  have := List.all_eq_true.1 ha e (List.mem_of_getElem? h)
  rw [hb] at this; cases this
/-- The halves while they are laid: the first k bear their balances. -/
structure Halves (k : Int) (v : List Int) (hs : List (Int × Int)) : Prop where
  len : hs.length = v.length
  val : hs.map hval = v
  bd : ∀ i, i < v.length → HB k (hs.getD i (0, 0))
theorem Halves.set {k : Int} {v : List Int} {hs : List (Int × Int)} (h : Halves k v hs) {i : Nat} (hi : i < v.length) {n : Int} (hn : Bd n) : Halves (k + 1) (v.set i (v.getD i 0 + n)) (hs.set i (hadd (hs.getD i (0, 0)) n)) := by
  refine ⟨by simp [h.len], ?_, fun j hj => ?_⟩
  · rw [List.map_set, h.val, hval_add]
    congr 2
    have := getD_map' (0, 0) hval hs i
    rw [h.val] at this
    exact this.symm
  · rw [List.length_set] at hj
    by_cases hij : j = i
    · subst hij
      rw [getD_set_self' _ _ _ _ (by rw [h.len]; exact hi)]
      exact (h.bd j hj).add hn.1 hn.2
    · rw [getD_set_other' _ _ _ hij]
      exact (h.bd j hj).mono (by omega)
theorem Halves.cast {k k' : Int} {v : List Int} {hs : List (Int × Int)} (h : Halves k v hs) (hk : k ≤ k') : Halves k' v hs := ⟨h.len, h.val, fun i hi => (h.bd i hi).mono hk⟩
theorem Halves.zero (n : Nat) : Halves 0 (List.replicate n 0) (List.replicate n (0, 0)) := by
  refine ⟨by simp, by simp [hval], fun i hi => ?_⟩
  rw [List.length_replicate] at hi
  rw [List.getD_eq_getElem?_getD, List.getElem?_replicate, if_pos hi]
  exact HB.zero
/-- The first k of v, behind them nought. -/
def fore (v : List Int) (k : Nat) : List Int := v.take k ++ List.replicate (v.length - k) 0
theorem fore_length (v : List Int) {k : Nat} (hk : k ≤ v.length) : (fore v k).length = v.length := by unfold fore; simp; omega
theorem fore_zero (v : List Int) : fore v 0 = List.replicate v.length 0 := by unfold fore; simp
theorem fore_all (v : List Int) : fore v v.length = v := by unfold fore; simp
theorem fore_at (v : List Int) {k : Nat} (hk : k < v.length) : (fore v k).getD k 0 = 0 := by
  unfold fore
  rw [List.getD_eq_getElem?_getD, List.getElem?_append_right (by simp; omega)]
  rw [List.getElem?_replicate]
  split <;> rfl
theorem fore_next (v : List Int) {k : Nat} (hk : k < v.length) : (fore v k).set k (v.getD k 0) = fore v (k + 1) := by
  have hx : v[k]? = some v[k] := List.getElem?_eq_getElem hk
  have hd : v.getD k 0 = v[k] := by rw [List.getD_eq_getElem?_getD, hx]; rfl
  rw [hd]
  unfold fore
  rw [take_next hx, List.set_append_right _ _ (by simp; omega)]
  have e : v.length - k = (v.length - (k + 1)) + 1 := by omega
  have e2 : k - (List.take k v).length = 0 := by simp; omega
  rw [e, List.replicate_succ, e2, List.set_cons_zero, List.append_assoc]; rfl
section
variable {w0 W : World} {L : List Ent} {g cnt : Nat} {bal : List Int}
set_option maxHeartbeats 8000000 in
set_option maxRecDepth 100000 in
theorem behind_calls (A : Option Addr) (n c : Nat) (es : List (Int × Int)) (h : ShAt w0 L g bal cnt W) (hE : Ents W A n es) (hn : n ≤ 64) (hl : bal.length ≤ 64) (hb : ∀ x ∈ bal, Bd x) :
    Calls Try.prog 21 #[.pointer (some ⟨g, 0, none⟩), .slice A n c] W (BehindPost (behindF bal es) W) := by
  obtain ⟨R, ab, cap, hR, hS, c0, c1, d0, d1⟩ := h.parts
  have hsrc := hR.srcIn hS (fun x hx => by simp [hx])
  have hle := hR.le
  have hcl := hR.cap_le
  have hlen := hE.len
  obtain ⟨m, hm⟩ : ∃ m, bal.length = m := ⟨_, rfl⟩
  have hmk := fun W => make_sums m (by omega) W
  have hmi := fun W => make_ints m (by omega) W
  have H := Lib.hid h; have HE := Lib.hid hE; have HSR := Lib.hid hsrc; have HB0 := Lib.hid hb; have HLN := Lib.hid hlen; have HM := Lib.hid hm
  rw [ZS_eq] at hmk
  rw [ZI_eq] at hmi
  rw [hm] at c0 hle hl
  have HMI := Lib.hid hmi
  have cA : ∀ o, (W.alloc o).cell? ⟨g, 0, none⟩ = some (.slice ab m cap) := fun o => ((bel_alloc (Below.refl _ W) o).cell (World.block_lt_of_cell? W _ c0)).trans c0
  clear h hE hR hS hsrc hb hlen c1 d0 d1 hm hmi
  have HS0 := Lib.hid ((Sts.nil W).add (g := W.heap.size) rfl (ecs (List.replicate m (0, 0))).toArray 55)
  have HH0 := Lib.hid (Halves.zero m)
  have HZ := Lib.hid (fore_zero bal)
  rw [HM.out] at HZ
  go_enter Try.func21, Try.ntmps21
  go_wp2_with fail
  go_loopw [27] (fun v27 wr => ∃ (k : Nat) (hs : List (Int × Int)), k ≤ m ∧ v27 = .int .i64 k ∧ Hid (Halves (k : Int) (fore bal k) hs) ∧ Hid (Sts W [(W.heap.size, (ecs hs).toArray, 55)] wr)) (fun v27 _ => m - (intOf v27).toNat)
  case atStart => exact ⟨0, List.replicate m (0, 0), by omega, rfl, Lib.hid (by rw [HZ.out]; exact HH0.out), HS0⟩
  case round =>
    obtain ⟨k, hs, hk, rfl, HH, HSr⟩ := hrel
    clear HS0 HH0 HZ
    by_cases hlt : k < m
    · obtain ⟨ad, rfl, hc⟩ := src_int HSR.out (k := k) (by rw [HM.out]; exact hlt)
      replace hc := HSr.out.old hc
      have hfl := fore_length bal (k := k) (by rw [HM.out]; exact hk)
      have hhl : hs.length = m := by rw [HH.out.len, hfl, HM.out]
      obtain ⟨g0, g1⟩ := ecs_at hs (i := k) (by omega)
      have hbd : Bd (bal.getD k 0) := HB0.out _ (getD_mem (by rw [HM.out]; exact hlt))
      have hnx := HH.out.set (i := k) (by rw [hfl, HM.out]; exact hlt) hbd
      rw [fore_at bal (by rw [HM.out]; exact hlt), Int.zero_add, fore_next bal (by rw [HM.out]; exact hlt)] at hnx
      have hbk := (HH.out.bd k (by rw [hfl, HM.out]; exact hlt)).mono (k' := 200) (by omega)
      have hes := fun a b => ecs_set hs k a b (by omega)
      have G0 := Lib.hid g0; have G1 := Lib.hid g1; have HNX := Lib.hid hnx; have HBD := Lib.hid hbd; have HBK := Lib.hid hbk; have HES := Lib.hid hes
      generalize bal.getD k 0 = x at *
      generalize hs.getD k (0, 0) = p at *
      obtain ⟨p1, p2⟩ := p
      clear g0 g1 hnx hbd hbk hfl hhl hes
      go_wp2_with fail
      refine (add_calls x 0 (k * 2) HSr.out rfl G0.out G1.out HBK.out HBD.out).mono ?_
      rintro e w2 ⟨rfl, hs2⟩
      rw [HES.out] at hs2
      have HS2 := Lib.hid hs2
      clear hs2
      go_wp2_with fail
      go_roundw
      case rel => exact ⟨k + 1, _, by omega, by go_num, Lib.hid (HNX.out.cast (by omega)), HS2⟩
      case measure => simp [intOf]; omega
    · obtain rfl : k = m := by omega
      have hfa : fore bal k = bal := by have := fore_all bal; rwa [HM.out] at this
      rw [hfa] at HH
      clear hfa cA hmk
      have HS1 := HSr
      clear HSr
      go_wp2_with fail
      go_loopw [40] (fun v40 wr => ∃ (j : Nat) (hs : List (Int × Int)), j ≤ n ∧ v40 = .int .i64 j ∧ Hid ((es.take j).all (thereB k) = true) ∧ Hid (Halves ((k : Int) + j) (postL bal (es.take j)) hs) ∧ Hid (Sts W [(W.heap.size, (ecs hs).toArray, 55)] wr)) (fun v40 _ => n - (intOf v40).toNat)
      case atStart => exact ⟨0, hs, by omega, rfl, Lib.hid (by simp), Lib.hid (HH.out.cast (by omega)), HS1⟩
      case round =>
        clear HH HS1 hs
        obtain ⟨j, hs, hj, rfl, HA, HH, HSr⟩ := hrel
        by_cases hlt : j < n
        · obtain ⟨ad, e, rfl, hg, hd, d1, d2, hc0, hc1⟩ := HE.out.at_ hlt
          replace hc0 := HSr.out.old hc0
          replace hc1 := HSr.out.old hc1
          have HG := Lib.hid hg; have HD := Lib.hid d2
          clear hg hd
          obtain ⟨e1, e2⟩ := e
          simp only at hc0 hc1 HD d1
          go_upto_region 10 with fail
          have HSn := Lib.hid (HSr.out.add (g := wr.heap.size) rfl #[.int .i64 e1, .int .i64 e2] 27)
          generalize wr.alloc (.cells #[.int .i64 e1, .int .i64 e2] 27) = w3 at *
          generalize wr.heap.size = gn at *
          have n0 := HSn.out.cell 1 0 rfl (v := .int .i64 e1) rfl
          have n1 := HSn.out.cell 1 1 rfl (v := .int .i64 e2) rfl
          have hth := there_calls e1 (H.out.below HSn.out.bel)
          rw [HM.out] at hth
          clear hc0 hc1 HSr
          by_cases hin : thereB k (e1, e2) = true
          · have hin' : (decide (0 ≤ e1) && decide (e1 < (k : Int))) = true := hin
            rw [hin'] at hth
            have HT := Lib.hid hth
            have h0 : 0 ≤ e1 ∧ e1 < (k : Int) := by simpa using hin'
            obtain ⟨q, rfl⟩ := Int.eq_ofNat_of_zero_le h0.1
            have hq : q < k := by omega
            have hpl : (postL bal (es.take j)).length = k := by rw [postL_length, HM.out]
            have hhl : hs.length = k := by rw [HH.out.len, hpl]
            obtain ⟨g0, g1⟩ := ecs_at hs (i := q) (by omega)
            have hnx := HH.out.set (i := q) (by rw [hpl]; exact hq) HD.out
            have hp1 : (postL bal (es.take j)).set q ((postL bal (es.take j)).getD q 0 + e2) = postL bal (es.take (j + 1)) := by
              rw [take_next HG.out, postL_snoc]; rfl
            rw [hp1] at hnx
            have hbk := (HH.out.bd q (by rw [hpl]; exact hq)).mono (k' := 200) (by omega)
            have hes := fun a b => ecs_set hs q a b (by omega)
            have hall : (es.take (j + 1)).all (thereB k) = true := by rw [take_next HG.out, List.all_append, HA.out]; simp [hin]
            have G0 := Lib.hid g0; have G1 := Lib.hid g1; have HNX := Lib.hid hnx; have HBK := Lib.hid hbk; have HES := Lib.hid hes; have HALL := Lib.hid hall
            generalize hs.getD q (0, 0) = p at *
            obtain ⟨p1, p2⟩ := p
            have i0 : (0 : Int) ≤ (q : Int) := by omega
            have i1 : (q : Int) < (k : Int) := by omega
            clear g0 g1 hnx hbk hhl hes hpl hp1 hin hin' h0 hth hall
            go_wp2_with fail
            refine HT.out.mono ?_
            rintro e w' ⟨rfl, rfl⟩
            go_upto_region 12 with fail
            go_still_tail 6, (by kernel_rfl)
            go_wp2_with fail
            refine (add_calls e2 0 (q * 2) HSn.out.drew rfl G0.out G1.out HBK.out HD.out).mono ?_
            rintro e w2 ⟨rfl, hs2⟩
            replace hs2 := hs2.take 1
            rw [HES.out] at hs2
            have HS2 := Lib.hid hs2
            clear hs2
            go_wp2_with fail
            go_roundw
            case rel => exact ⟨j + 1, _, by omega, by go_num, HALL, Lib.hid (HNX.out.cast (by omega)), HS2⟩
            case measure => simp [intOf]; omega
          · have hin : thereB k (e1, e2) = false := by simpa using hin
            have hin' : (decide (0 ≤ e1) && decide (e1 < (k : Int))) = false := hin
            rw [hin'] at hth
            have HT := Lib.hid hth
            have HV := Lib.hid (behind_not (bal := bal) HG.out (by rw [HM.out]; exact hin))
            clear hin hin' hth
            go_wp2_with fail
            refine HT.out.mono ?_
            rintro e w' ⟨rfl, rfl⟩
            go_wp2
            go_ret2
            exact behind_no HV.out HSn.out.bel
        · obtain rfl : j = n := by omega
          have htk : es.take j = es := List.take_of_length_le (by rw [HLN.out]; omega)
          rw [htk] at HA HH
          clear htk
          obtain ⟨v, hv⟩ : ∃ v, postL bal es = v := ⟨_, rfl⟩
          have hvl : v.length = k := by rw [← hv, postL_length, HM.out]
          have hbf : behindF bal es = if v.all inB then some v else none := by
            unfold behindF
            rw [HM.out, if_pos HA.out, hv]
          rw [hv] at HH
          have hfz := fore_zero v
          rw [hvl] at hfz
          have HBF := Lib.hid hbf; have HVL := Lib.hid hvl
          have c0' := HSr.out.old c0
          have HSI := Lib.hid (HSr.out.add (g := wr.heap.size) rfl (is (List.replicate k 0)).toArray 3)
          have hmi := HMI.out
          rw [← hfz] at hmi HSI
          have hms := hmi wr
          generalize wr.alloc (.cells (is (fore v 0)).toArray 3) = w3 at *
          generalize wr.heap.size = g2 at *
          clear hv hvl hbf hfz c0 HMI HSR HA HB0 hmi
          go_wp2_with fail
          clear hms c0'
          go_loopw [65] (fun v65 wr => ∃ (i : Nat), i ≤ k ∧ v65 = .int .i64 i ∧ Hid ((v.take i).all inB = true) ∧ Hid (Sts W [(W.heap.size, (ecs hs).toArray, 55), (g2, (is (fore v i)).toArray, 3)] wr)) (fun v65 _ => k - (intOf v65).toNat)
          case atStart => exact ⟨0, by omega, rfl, Lib.hid (by simp), HSI⟩
          case round =>
            clear HSI HSr
            obtain ⟨i, hi, rfl, HA, HSr⟩ := hrel
            by_cases hlt : i < k
            · have hhl : hs.length = k := by rw [HH.out.len, HVL.out]
              obtain ⟨g0, g1⟩ := ecs_at hs (i := i) (by omega)
              have c0 := HSr.out.cell 0 (i * 2) rfl g0
              have c1 := HSr.out.cell 0 (i * 2 + 1) rfl g1
              have hbk := (HH.out.bd i (by rw [HVL.out]; exact hlt)).mono (k' := 200) (by omega)
              have hpv : hval (hs.getD i (0, 0)) = v.getD i 0 := by
                have := getD_map' (0, 0) hval hs i
                rw [HH.out.val] at this
                exact this.symm
              have hx : v[i]? = some (v.getD i 0) := by rw [List.getD_eq_getElem?_getD, List.getElem?_eq_getElem (by rw [HVL.out]; exact hlt)]; rfl
              have hfl := fore_length v (k := i) (by rw [HVL.out]; exact hi)
              have hgi := is_get (fore v i) (i := i) (by rw [hfl, HVL.out]; exact hlt)
              have hset := is_set (fore v i) i (v.getD i 0)
              rw [fore_next v (by rw [HVL.out]; exact hlt)] at hset
              have HBK := Lib.hid hbk; have HPV := Lib.hid hpv; have HX := Lib.hid hx; have HGI := Lib.hid hgi; have HSET := Lib.hid hset
              generalize v.getD i 0 = x at *
              generalize hs.getD i (0, 0) = p at *
              obtain ⟨p1, p2⟩ := p
              clear g0 g1 hbk hpv hx hfl hgi hset hhl
              simp only at c0 c1
              go_wp2_with fail
              refine (value_calls p1 p2 _ HBK.out).mono ?_
              rintro e w2 ⟨rfl, hb2⟩
              rw [HPV.out]
              have HS2 := Lib.hid ((HSr.out.skip _).below hb2)
              clear hb2 c0 c1
              by_cases hin : inB x = true
              · have hi2 := inB_iff.1 hin
                have hvv := valF_yes (v := x) (by omega) (by omega)
                rw [hvv]
                have q1 := HS2.out.cell 1 i rfl (by rw [List.getElem?_toArray]; exact HGI.out)
                have q2 := HS2.out.frozen 1 i rfl
                have hall : (v.take (i + 1)).all inB = true := by rw [take_next HX.out, List.all_append, HA.out]; simp [hin]
                have HALL := Lib.hid hall
                have HS3 := Lib.hid (HS2.out.set 1 i (.int .i64 x) rfl)
                have hs3 := HS3.out
                rw [HSET.out] at hs3
                have HS4 := Lib.hid hs3
                clear hvv hi2 hall hs3 HS3
                go_wp2_with fail
                refine (inside_calls x _).mono ?_
                rintro e w' ⟨rfl, rfl⟩
                go_wp2_with fail
                go_roundw
                case rel => exact ⟨i + 1, by omega, by go_num, HALL, HS4⟩
                case measure => simp [intOf]; omega
              · have hin : inB x = false := by simpa using hin
                have hno : behindF bal es = none := by
                  rw [HBF.out, if_neg]
                  intro ha
                  have := List.all_eq_true.1 ha x (List.mem_of_getElem? HX.out)
                  rw [hin] at this; cases this
                have HV := Lib.hid hno
                clear hno
                by_cases hf : fits x = true
                · have hvv : valF x = (x, true) := by unfold valF; rw [if_pos hf]
                  rw [hvv]
                  clear hvv hf
                  go_wp2_with fail
                  refine (inside_calls x _).mono ?_
                  rintro e w' ⟨rfl, rfl⟩
                  go_wp2
                  go_ret2
                  exact behind_no HV.out HS2.out.bel
                · have hvv : valF x = (0, false) := by unfold valF; rw [if_neg hf]
                  rw [hvv]
                  clear hvv hf
                  go_wp2
                  go_ret2
                  exact behind_no HV.out HS2.out.bel
            · obtain rfl : i = k := by omega
              have hfa := fore_all v
              rw [HVL.out] at hfa
              have htk2 : v.take i = v := List.take_of_length_le (by rw [HVL.out]; omega)
              have hbf2 : behindF bal es = some v := by rw [HBF.out, if_pos (by have := HA.out; rwa [htk2] at this)]
              rw [hfa] at HSr
              have HBF2 := Lib.hid hbf2
              clear hfa htk2 hbf2
              go_wp2
              go_ret2
              show BehindPost _ _ _ _
              rw [HBF2.out]
              refine ⟨[(g2, (is v).toArray, 3)], some ⟨g2, 0, none⟩, i, by rw [HVL.out]; rfl, ?_, HSr.out.sub (List.sublist_cons_self _ _)⟩
              rw [HVL.out]
              exact made_row g2 i (by omega) v HVL.out
end
end Go.Proofs.Ytideaimlnipkoaa

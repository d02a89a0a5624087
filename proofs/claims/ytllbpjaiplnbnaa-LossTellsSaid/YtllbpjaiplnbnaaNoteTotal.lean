import Derived.Test.YtllbpjaiplnbnaaNotes
import Derived.Test.YtllbpjaiplnbnaaArgs
import Derived.Test.YtllbpjaiplnbnaaWithin
namespace Go.Proofs.Ytllbpjaiplnbnaa
open Go.RowKit
set_option linter.unusedVariables false
set_option linter.unusedSimpArgs false
theorem note_info : (Try.prog.info? 27).map (fun i => (i.zero, i.size, i.bytes)) = some (some (.agg #[.int .i64 0, .int .i64 0, .int .i64 0, .int .i64 0, .int .i64 0, .int .i64 0, .int .i64 0]), 7, 56) := by kernel_rfl
theorem Nt.one (z : Nt) : ∀ u ∈ z.c, u.oneCell' = true := by
  intro u hu
  simp only [Nt.c, List.mem_cons, List.not_mem_nil, or_false] at hu
  rcases hu with rfl | rfl | rfl | rfl | rfl | rfl | rfl <;> rfl
theorem Nt.ones (zs : List Nt) : ∀ u ∈ zs.flatMap Nt.c, u.oneCell' = true := by
  intro u hu
  obtain ⟨z, _, h⟩ := List.mem_flatMap.1 hu
  exact Nt.one z u h
theorem flat_snoc (zs : List Nt) (z : Nt) : (zs ++ [z]).flatMap Nt.c = zs.flatMap Nt.c ++ z.c := by simp
theorem Row.empty (g : Nat) (e : TypeId) (size : Nat) : Row [(g, #[], e)] e size (some ⟨g, 0, none⟩) 0 0 [] := ⟨by simp, Nat.le_refl _, by omega, .inr ⟨g, #[], rfl, rfl, by simp, by simp⟩⟩
section
variable {w0 W : World} {A B R : List Ent} {e : TypeId} {n cap : Nat} {a : Option Addr} {zs : List Nt}
theorem Row.lit {xs ys : List Value} {size : Nat} (h : Row R e size a n cap xs) (e1 : xs = ys) : Row R e size a n cap ys := e1 ▸ h
theorem Row.src_dropN (A B : List Ent) (h : Row R e 7 a n cap (zs.flatMap Nt.c)) (hS : Sts w0 (A ++ (R ++ B)) W) {k : Nat} (hk : k ≤ n) : Src W (if cap = k then a else a.map (·.add (k * 7))) (n - k) 7 ((zs.drop k).flatMap Nt.c) := by
  rw [← flat_drop Nt.c 7 Nt.c_length]
  exact h.src_drop A B hS hk
theorem Row.src_takeN (A B : List Ent) (h : Row R e 7 a n cap (zs.flatMap Nt.c)) (hS : Sts w0 (A ++ (R ++ B)) W) {k : Nat} (hk : k ≤ n) : Src W a k 7 ((zs.take k).flatMap Nt.c) := by
  rw [← flat_take Nt.c 7 Nt.c_length]
  exact h.src_take A B hS hk
end
theorem rot_sum (zs : List Nt) (k : Nat) (f : Nt → Int) : ((zs.drop k ++ zs.take k).map f).sum = (zs.map f).sum := by
  rw [List.map_append, List.sum_append, Int.add_comm, ← List.sum_append, ← List.map_append, List.take_append_drop]
/-- What the loop has laid. -/
structure Tot (zs : List Nt) (k : Nat) (b d : Int) : Prop where
  len : zs.length = k
  bal : b = (zs.map Nt.bal).sum
  dn : d = (zs.map Nt.dn).sum
  sh : 2 * (zs.map Nt.sh).sum = (k : Int) * (k - 1)
  fine : ∀ z ∈ zs, Fine z
theorem Tot.fine_rot {zs : List Nt} {k : Nat} {b d : Int} (h : Tot zs k b d) (i : Nat) : ∀ z ∈ zs.drop i ++ zs.take i, Fine z := by
  intro z hz
  rcases List.mem_append.1 hz with hz | hz
  · exact h.fine z (List.mem_of_mem_drop hz)
  · exact h.fine z (List.mem_of_mem_take hz)
theorem Tot.nil : Tot [] 0 0 0 := ⟨rfl, rfl, rfl, rfl, by simp⟩
theorem Tot.next {zs : List Nt} {k : Nat} {b d b' d' : Int} (h : Tot zs k b d) (z : Nt) (hb : b' = b + z.bal) (hd : d' = d + z.dn) (hs : z.sh = k) (hf : Fine z) : Tot (zs ++ [z]) (k + 1) b' d' := by
  refine ⟨by simp [h.len], by rw [hb, h.bal]; simp, by rw [hd, h.dn]; simp, ?_, fun y hy => ?_⟩
  · have := h.sh
    simp only [List.map_append, List.map_cons, List.map_nil, List.sum_append, List.sum_cons, List.sum_nil, hs]
    have e1 : ((k : Int) + 1) * ((k : Int) + 1 - 1) = k * k + k := by rw [Int.add_sub_cancel, Int.add_mul, Int.one_mul]
    have e2 : (k : Int) * (k - 1) = k * k - k := by rw [Int.mul_sub, Int.mul_one]
    rw [Int.mul_add, this, e2]
    push_cast
    rw [e1]
    omega
  · rcases List.mem_append.1 hy with hy | hy
    · exact h.fine y hy
    · obtain rfl : y = z := by simpa using hy
      exact hf
set_option maxHeartbeats 4000000 in
set_option maxRecDepth 100000 in
theorem noteTotal_walk (A1 : Option Addr) (n1 c1 : Nat) (f1 : Nat → Nat → Int) (A2 : Option Addr) (n2 c2 : Nat) (z2 : List Int) (A3 : Option Addr) (n3 c3 : Nat) (z3 : List Int) (cut : Int) (w : World) (h1 : Grid w A1 n1 3 f1) (h2 : Ints w A2 n2 z2) (h3 : Ints w A3 n3 z3) (h4 : -9223372036854775808 ≤ cut ∧ cut ≤ 9223372036854775807) :
    Calls Try.prog 9 #[.slice A1 n1 c1, .slice A2 n2 c2, .slice A3 n3 c3, .int .i64 cut] w fun e w' => e = .returned (.bool true) ∧ Below w.heap.size w w' := by
  obtain ⟨i0, hi, hz, hs1, hs2⟩ := info_parts note_info
  have N1 := h1.most; have N2 := h2.most; have N3 := h3.most
  have H1 := Lib.hid h1
  clear h1
  have H2 := Lib.hid h2
  clear h2
  have H3 := Lib.hid h3
  clear h3
  clear h4
  have HS0 := Lib.hid (Sts.nil w)
  go_enter Try.func9, Try.ntmps9
  go_wp2_with fail
  go_loopw [9, 10, 11, 12] (fun v9 v10 v11 v12 wr => ∃ (k : Nat) (b d : Int) (zs : List Nt) (R : List Ent) (A : Option Addr) (cap : Nat), v9 = .slice A k cap ∧ v10 = .int .i64 b ∧ v11 = .int .i64 d ∧ v12 = .int .i64 k ∧ k ≤ 8 ∧ 0 ≤ b ∧ b ≤ 1099511627776 * k ∧ 0 ≤ d ∧ d ≤ 1099511627776 * k ∧ Hid (Tot zs k b d) ∧ Hid (Row R 27 7 A k cap (zs.flatMap Nt.c)) ∧ Hid (Sts w (R ++ []) wr)) (fun _ _ _ v12 _ => 8 - (intOf v12).toNat)
  case atStart => exact ⟨0, 0, 0, [], [], none, 0, rfl, rfl, rfl, rfl, by omega, by omega, by omega, by omega, by omega, Lib.hid Tot.nil, Lib.hid (Row.nil _ _), HS0⟩
  case round =>
    obtain ⟨k, b, d, zs, R, A, cap, rfl, rfl, rfl, rfl, hk, b0, b1, d0, d1, HT, HR, HSr⟩ := hrel
    clear HS0
    by_cases q1 : k < n1 ∧ k < 8
    · obtain ⟨q2, q3⟩ := q1
      obtain ⟨ad, hA, hc⟩ := H1.out.at_ k q2
      obtain ⟨hc1, _, _⟩ := hc 1 (by omega)
      clear hc
      rw [add_next ad _ 1 (by omega)] at hc1
      replace hc1 := HSr.out.old hc1
      generalize f1 k 1 = o0 at hc1
      obtain rfl := hA
      obtain ⟨og, hog⟩ : ∃ v, v = within o0 0 1099511627776 := ⟨_, rfl⟩
      obtain ⟨bog0, bog1⟩ : 0 ≤ og ∧ og ≤ 1099511627776 := by rw [hog]; exact within_bd o0 (by omega)
      have Eog := Lib.hid hog
      clear hog
      go_upto_region 6 with fail
      go_wp2_with fail
      refine (within_s o0 0 1099511627776 HSr.out (by omega) (by omega) (by omega)).mono ?_
      rintro e w11 ⟨rfl, hs⟩
      have HS11 := Lib.hid ((hs.lit rfl : Sts w ((R ++ [])) w11))
      clear HSr
      clear hs
      rw [← Eog.out]
      clear hc1
      go_upto_region 7 with fail
      have HS12 := Lib.hid ((Sts.ins (g := w11.heap.size) [] (R ++ []) HS11.out (by simp) #[.int .i64 0, .int .i64 og, .int .i64 0] 23).lit (L' := ((w11.heap.size, #[.int .i64 0, .int .i64 og, .int .i64 0], 23) :: (R ++ []))) rfl)
      clear HS11
      generalize w11.heap.size = gt at *
      generalize (w11.alloc (.cells #[.int .i64 0, .int .i64 og, .int .i64 0] 23)) = v12 at *
      have c0_0 : v12.cell? ⟨gt, 0, none⟩ = some (.int .i64 0) := HS12.out.cell 0 0 rfl rfl
      have c0_1 : v12.cell? ⟨gt, 1, none⟩ = some (.int .i64 og) := HS12.out.cell 0 1 rfl rfl
      have c0_2 : v12.cell? ⟨gt, 2, none⟩ = some (.int .i64 0) := HS12.out.cell 0 2 rfl rfl
      go_wp2_with fail
      clear c0_0 c0_1 c0_2
      refine (new_s 0 og 0 HS12.out).mono ?_
      rintro e w13 ⟨rfl, hs⟩
      have HS13 := Lib.hid ((hs.lit rfl : Sts w ((gt, #[.int .i64 0, .int .i64 og, .int .i64 0], 23) :: (R ++ [])) w13))
      clear HS12
      clear hs
      have c0_0 : w13.cell? ⟨gt, 0, none⟩ = some (.int .i64 0) := HS13.out.cell 0 0 rfl rfl
      have c0_1 : w13.cell? ⟨gt, 1, none⟩ = some (.int .i64 og) := HS13.out.cell 0 1 rfl rfl
      have c0_2 : w13.cell? ⟨gt, 2, none⟩ = some (.int .i64 0) := HS13.out.cell 0 2 rfl rfl
      go_upto_region 8 with fail
      clear c0_0 c0_1 c0_2
      have HS14 := Lib.hid ((Sts.ins (g := w13.heap.size) [(gt, #[.int .i64 0, .int .i64 og, .int .i64 0], 23)] (R ++ []) HS13.out (by simp) #[.int .i64 0, .int .i64 og, .int .i64 0, .int .i64 0, .int .i64 0, .int .i64 0, .int .i64 0] 27).lit (L' := ((gt, #[.int .i64 0, .int .i64 og, .int .i64 0], 23) :: (w13.heap.size, #[.int .i64 0, .int .i64 og, .int .i64 0, .int .i64 0, .int .i64 0, .int .i64 0, .int .i64 0], 27) :: (R ++ []))) rfl)
      clear HS13
      generalize w13.heap.size = g at *
      generalize (w13.alloc (.cells #[.int .i64 0, .int .i64 og, .int .i64 0, .int .i64 0, .int .i64 0, .int .i64 0, .int .i64 0] 27)) = v14 at *
      have c0_0 : v14.cell? ⟨gt, 0, none⟩ = some (.int .i64 0) := HS14.out.cell 0 0 rfl rfl
      have c0_1 : v14.cell? ⟨gt, 1, none⟩ = some (.int .i64 og) := HS14.out.cell 0 1 rfl rfl
      have c0_2 : v14.cell? ⟨gt, 2, none⟩ = some (.int .i64 0) := HS14.out.cell 0 2 rfl rfl
      have c1_0 : v14.cell? ⟨g, 0, none⟩ = some (.int .i64 0) := HS14.out.cell 1 0 rfl rfl
      have c1_1 : v14.cell? ⟨g, 1, none⟩ = some (.int .i64 og) := HS14.out.cell 1 1 rfl rfl
      have c1_2 : v14.cell? ⟨g, 2, none⟩ = some (.int .i64 0) := HS14.out.cell 1 2 rfl rfl
      have c1_3 : v14.cell? ⟨g, 3, none⟩ = some (.int .i64 0) := HS14.out.cell 1 3 rfl rfl
      have c1_4 : v14.cell? ⟨g, 4, none⟩ = some (.int .i64 0) := HS14.out.cell 1 4 rfl rfl
      have c1_5 : v14.cell? ⟨g, 5, none⟩ = some (.int .i64 0) := HS14.out.cell 1 5 rfl rfl
      have c1_6 : v14.cell? ⟨g, 6, none⟩ = some (.int .i64 0) := HS14.out.cell 1 6 rfl rfl
      by_cases r1 : k < n2
      · obtain ⟨ad2, hA2, hc2⟩ := H2.out.at_ k r1
        obtain ⟨l2, u2⟩ := H2.out.bd _ (getD_mem (d := 0) (by rw [H2.out.length]; exact r1))
        replace hc2 := HS14.out.old hc2
        generalize z2.getD k 0 = pay at hc2 l2 u2
        obtain rfl := hA2
        obtain ⟨x, hx⟩ : ∃ x, x = wi pay (og - (0 - 0) - 0) := ⟨_, rfl⟩
        have x0 : 0 ≤ x := by rw [hx]; exact wi_bd _ _
        have x1 : x ≤ og := by rw [hx]; exact Int.le_trans (wi_le _ (by omega)) (by omega)
        have Ex := Lib.hid hx
        clear hx
        go_wp2_with fail
        clear c0_0 c0_1 c0_2 c1_0 c1_1 c1_2 c1_3 c1_4 c1_5 c1_6
        refine (pay_s x 0 og 0 0 0 0 0 pay 1 HS14.out rfl ⟨by omega, by omega, by omega, by omega, by omega, by omega, by omega, by omega, by omega⟩ (by omega) (by omega) Ex.out).mono ?_
        rintro e w15 ⟨rfl, hs⟩
        have HS15 := Lib.hid ((hs.lit (by simp) : Sts w ((gt, #[.int .i64 0, .int .i64 og, .int .i64 0], 23) :: (g, #[.int .i64 0, .int .i64 og, .int .i64 0, .int .i64 x, .int .i64 0, .int .i64 0, .int .i64 0], 27) :: (R ++ [])) w15))
        clear HS14
        clear hs
        have c0_0 : w15.cell? ⟨gt, 0, none⟩ = some (.int .i64 0) := HS15.out.cell 0 0 rfl rfl
        have c0_1 : w15.cell? ⟨gt, 1, none⟩ = some (.int .i64 og) := HS15.out.cell 0 1 rfl rfl
        have c0_2 : w15.cell? ⟨gt, 2, none⟩ = some (.int .i64 0) := HS15.out.cell 0 2 rfl rfl
        have c1_0 : w15.cell? ⟨g, 0, none⟩ = some (.int .i64 0) := HS15.out.cell 1 0 rfl rfl
        have c1_1 : w15.cell? ⟨g, 1, none⟩ = some (.int .i64 og) := HS15.out.cell 1 1 rfl rfl
        have c1_2 : w15.cell? ⟨g, 2, none⟩ = some (.int .i64 0) := HS15.out.cell 1 2 rfl rfl
        have c1_3 : w15.cell? ⟨g, 3, none⟩ = some (.int .i64 x) := HS15.out.cell 1 3 rfl rfl
        have c1_4 : w15.cell? ⟨g, 4, none⟩ = some (.int .i64 0) := HS15.out.cell 1 4 rfl rfl
        have c1_5 : w15.cell? ⟨g, 5, none⟩ = some (.int .i64 0) := HS15.out.cell 1 5 rfl rfl
        have c1_6 : w15.cell? ⟨g, 6, none⟩ = some (.int .i64 0) := HS15.out.cell 1 6 rfl rfl
        clear c0_0 c0_1 c0_2 c1_0 c1_1 c1_2 c1_3 c1_4 c1_5 c1_6
        have c0_0 : w15.cell? ⟨gt, 0, none⟩ = some (.int .i64 0) := HS15.out.cell 0 0 rfl rfl
        have c0_1 : w15.cell? ⟨gt, 1, none⟩ = some (.int .i64 og) := HS15.out.cell 0 1 rfl rfl
        have c0_2 : w15.cell? ⟨gt, 2, none⟩ = some (.int .i64 0) := HS15.out.cell 0 2 rfl rfl
        have c1_0 : w15.cell? ⟨g, 0, none⟩ = some (.int .i64 0) := HS15.out.cell 1 0 rfl rfl
        have c1_1 : w15.cell? ⟨g, 1, none⟩ = some (.int .i64 og) := HS15.out.cell 1 1 rfl rfl
        have c1_2 : w15.cell? ⟨g, 2, none⟩ = some (.int .i64 0) := HS15.out.cell 1 2 rfl rfl
        have c1_3 : w15.cell? ⟨g, 3, none⟩ = some (.int .i64 x) := HS15.out.cell 1 3 rfl rfl
        have c1_4 : w15.cell? ⟨g, 4, none⟩ = some (.int .i64 0) := HS15.out.cell 1 4 rfl rfl
        have c1_5 : w15.cell? ⟨g, 5, none⟩ = some (.int .i64 0) := HS15.out.cell 1 5 rfl rfl
        have c1_6 : w15.cell? ⟨g, 6, none⟩ = some (.int .i64 0) := HS15.out.cell 1 6 rfl rfl
        clear hc2
        go_upto_region 11 with fail
        by_cases r2 : k < n3
        · obtain ⟨ad3, hA3, hc3⟩ := H3.out.at_ k r2
          obtain ⟨l3, u3⟩ := H3.out.bd _ (getD_mem (d := 0) (by rw [H3.out.length]; exact r2))
          replace hc3 := HS15.out.old hc3
          generalize z3.getD k 0 = wrt at hc3 l3 u3
          obtain rfl := hA3
          obtain ⟨y, hy⟩ : ∃ y, y = wi wrt (og - (x - 0) - 0) := ⟨_, rfl⟩
          have y0 : 0 ≤ y := by rw [hy]; exact wi_bd _ _
          have y1 : y ≤ og - x := by rw [hy]; exact Int.le_trans (wi_le _ (by omega)) (by omega)
          have Ey := Lib.hid hy
          clear hy
          clear c0_0 c0_1 c0_2 c1_0 c1_1 c1_2 c1_3 c1_4 c1_5 c1_6
          have c0_0 : w15.cell? ⟨gt, 0, none⟩ = some (.int .i64 0) := HS15.out.cell 0 0 rfl rfl
          have c0_1 : w15.cell? ⟨gt, 1, none⟩ = some (.int .i64 og) := HS15.out.cell 0 1 rfl rfl
          have c0_2 : w15.cell? ⟨gt, 2, none⟩ = some (.int .i64 0) := HS15.out.cell 0 2 rfl rfl
          have c1_0 : w15.cell? ⟨g, 0, none⟩ = some (.int .i64 0) := HS15.out.cell 1 0 rfl rfl
          have c1_1 : w15.cell? ⟨g, 1, none⟩ = some (.int .i64 og) := HS15.out.cell 1 1 rfl rfl
          have c1_2 : w15.cell? ⟨g, 2, none⟩ = some (.int .i64 0) := HS15.out.cell 1 2 rfl rfl
          have c1_3 : w15.cell? ⟨g, 3, none⟩ = some (.int .i64 x) := HS15.out.cell 1 3 rfl rfl
          have c1_4 : w15.cell? ⟨g, 4, none⟩ = some (.int .i64 0) := HS15.out.cell 1 4 rfl rfl
          have c1_5 : w15.cell? ⟨g, 5, none⟩ = some (.int .i64 0) := HS15.out.cell 1 5 rfl rfl
          have c1_6 : w15.cell? ⟨g, 6, none⟩ = some (.int .i64 0) := HS15.out.cell 1 6 rfl rfl
          go_wp2_with fail
          clear c0_0 c0_1 c0_2 c1_0 c1_1 c1_2 c1_3 c1_4 c1_5 c1_6
          refine (write_s y 0 og 0 x 0 0 0 wrt 1 HS15.out rfl ⟨by omega, by omega, by omega, by omega, by omega, by omega, by omega, by omega, by omega⟩ (by omega) (by omega) Ey.out).mono ?_
          rintro e w16 ⟨rfl, hs⟩
          have HS16 := Lib.hid ((hs.lit (by simp) : Sts w ((gt, #[.int .i64 0, .int .i64 og, .int .i64 0], 23) :: (g, #[.int .i64 0, .int .i64 og, .int .i64 0, .int .i64 x, .int .i64 0, .int .i64 0, .int .i64 y], 27) :: (R ++ [])) w16))
          clear HS15
          clear hs
          have c0_0 : w16.cell? ⟨gt, 0, none⟩ = some (.int .i64 0) := HS16.out.cell 0 0 rfl rfl
          have c0_1 : w16.cell? ⟨gt, 1, none⟩ = some (.int .i64 og) := HS16.out.cell 0 1 rfl rfl
          have c0_2 : w16.cell? ⟨gt, 2, none⟩ = some (.int .i64 0) := HS16.out.cell 0 2 rfl rfl
          have c1_0 : w16.cell? ⟨g, 0, none⟩ = some (.int .i64 0) := HS16.out.cell 1 0 rfl rfl
          have c1_1 : w16.cell? ⟨g, 1, none⟩ = some (.int .i64 og) := HS16.out.cell 1 1 rfl rfl
          have c1_2 : w16.cell? ⟨g, 2, none⟩ = some (.int .i64 0) := HS16.out.cell 1 2 rfl rfl
          have c1_3 : w16.cell? ⟨g, 3, none⟩ = some (.int .i64 x) := HS16.out.cell 1 3 rfl rfl
          have c1_4 : w16.cell? ⟨g, 4, none⟩ = some (.int .i64 0) := HS16.out.cell 1 4 rfl rfl
          have c1_5 : w16.cell? ⟨g, 5, none⟩ = some (.int .i64 0) := HS16.out.cell 1 5 rfl rfl
          have c1_6 : w16.cell? ⟨g, 6, none⟩ = some (.int .i64 y) := HS16.out.cell 1 6 rfl rfl
          clear c0_0 c0_1 c0_2 c1_0 c1_1 c1_2 c1_3 c1_4 c1_5 c1_6
          have c0_0 : w16.cell? ⟨gt, 0, none⟩ = some (.int .i64 0) := HS16.out.cell 0 0 rfl rfl
          have c0_1 : w16.cell? ⟨gt, 1, none⟩ = some (.int .i64 og) := HS16.out.cell 0 1 rfl rfl
          have c0_2 : w16.cell? ⟨gt, 2, none⟩ = some (.int .i64 0) := HS16.out.cell 0 2 rfl rfl
          have c1_0 : w16.cell? ⟨g, 0, none⟩ = some (.int .i64 0) := HS16.out.cell 1 0 rfl rfl
          have c1_1 : w16.cell? ⟨g, 1, none⟩ = some (.int .i64 og) := HS16.out.cell 1 1 rfl rfl
          have c1_2 : w16.cell? ⟨g, 2, none⟩ = some (.int .i64 0) := HS16.out.cell 1 2 rfl rfl
          have c1_3 : w16.cell? ⟨g, 3, none⟩ = some (.int .i64 x) := HS16.out.cell 1 3 rfl rfl
          have c1_4 : w16.cell? ⟨g, 4, none⟩ = some (.int .i64 0) := HS16.out.cell 1 4 rfl rfl
          have c1_5 : w16.cell? ⟨g, 5, none⟩ = some (.int .i64 0) := HS16.out.cell 1 5 rfl rfl
          have c1_6 : w16.cell? ⟨g, 6, none⟩ = some (.int .i64 y) := HS16.out.cell 1 6 rfl rfl
          clear hc3
          go_wp2_with fail
          clear c0_0 c0_1 c0_2 c1_0 c1_1 c1_2 c1_3 c1_4 c1_5 c1_6
          refine (oweyes_s 0 og 0 x 0 0 y k 1 HS16.out rfl ⟨by omega, by omega, by omega, by omega, by omega, by omega, by omega, by omega, by omega⟩ (by omega) (by omega)).mono ?_
          rintro e w17 ⟨rfl, hs⟩
          have HS17 := Lib.hid ((hs.lit (by simp) : Sts w ((gt, #[.int .i64 0, .int .i64 og, .int .i64 0], 23) :: (g, #[.int .i64 0, .int .i64 og, .int .i64 0, .int .i64 x, .int .i64 0, .int .i64 k, .int .i64 y], 27) :: (R ++ [])) w17))
          clear HS16
          clear hs
          have c0_0 : w17.cell? ⟨gt, 0, none⟩ = some (.int .i64 0) := HS17.out.cell 0 0 rfl rfl
          have c0_1 : w17.cell? ⟨gt, 1, none⟩ = some (.int .i64 og) := HS17.out.cell 0 1 rfl rfl
          have c0_2 : w17.cell? ⟨gt, 2, none⟩ = some (.int .i64 0) := HS17.out.cell 0 2 rfl rfl
          have c1_0 : w17.cell? ⟨g, 0, none⟩ = some (.int .i64 0) := HS17.out.cell 1 0 rfl rfl
          have c1_1 : w17.cell? ⟨g, 1, none⟩ = some (.int .i64 og) := HS17.out.cell 1 1 rfl rfl
          have c1_2 : w17.cell? ⟨g, 2, none⟩ = some (.int .i64 0) := HS17.out.cell 1 2 rfl rfl
          have c1_3 : w17.cell? ⟨g, 3, none⟩ = some (.int .i64 x) := HS17.out.cell 1 3 rfl rfl
          have c1_4 : w17.cell? ⟨g, 4, none⟩ = some (.int .i64 0) := HS17.out.cell 1 4 rfl rfl
          have c1_5 : w17.cell? ⟨g, 5, none⟩ = some (.int .i64 k) := HS17.out.cell 1 5 rfl rfl
          have c1_6 : w17.cell? ⟨g, 6, none⟩ = some (.int .i64 y) := HS17.out.cell 1 6 rfl rfl
          clear c0_0 c0_1 c0_2 c1_0 c1_1 c1_2 c1_3 c1_4 c1_5 c1_6
          have c0_0 : w17.cell? ⟨gt, 0, none⟩ = some (.int .i64 0) := HS17.out.cell 0 0 rfl rfl
          have c0_1 : w17.cell? ⟨gt, 1, none⟩ = some (.int .i64 og) := HS17.out.cell 0 1 rfl rfl
          have c0_2 : w17.cell? ⟨gt, 2, none⟩ = some (.int .i64 0) := HS17.out.cell 0 2 rfl rfl
          have c1_0 : w17.cell? ⟨g, 0, none⟩ = some (.int .i64 0) := HS17.out.cell 1 0 rfl rfl
          have c1_1 : w17.cell? ⟨g, 1, none⟩ = some (.int .i64 og) := HS17.out.cell 1 1 rfl rfl
          have c1_2 : w17.cell? ⟨g, 2, none⟩ = some (.int .i64 0) := HS17.out.cell 1 2 rfl rfl
          have c1_3 : w17.cell? ⟨g, 3, none⟩ = some (.int .i64 x) := HS17.out.cell 1 3 rfl rfl
          have c1_4 : w17.cell? ⟨g, 4, none⟩ = some (.int .i64 0) := HS17.out.cell 1 4 rfl rfl
          have c1_5 : w17.cell? ⟨g, 5, none⟩ = some (.int .i64 k) := HS17.out.cell 1 5 rfl rfl
          have c1_6 : w17.cell? ⟨g, 6, none⟩ = some (.int .i64 y) := HS17.out.cell 1 6 rfl rfl
          go_wp2_with (first | (at_builtin; refine row_append rfl (.tmp 79) (.tmp 81) 46 rfl [(gt, #[.int .i64 0, .int .i64 og, .int .i64 0], 23), (g, #[.int .i64 0, .int .i64 og, .int .i64 0, .int .i64 x, .int .i64 0, .int .i64 k, .int .i64 y], 27)] [] Try.underlying46 hi hz hs1 hs2 rfl (by omega) HR.out (HS17.out.skip _) rfl rfl (Src.new (size := 7) (m := 1) rfl rfl) (Nt.one ⟨0, og, 0, x, 0, k, y⟩) (by omega) (by omega) ?_; rintro R2 A2 cap2 w2 hR2 hs2))
          clear c0_0 c0_1 c0_2 c1_0 c1_1 c1_2 c1_3 c1_4 c1_5 c1_6
          go_roundw
          case rel => exact ⟨k + 1, b + (og - x - y), d + y, zs ++ [⟨0, og, 0, x, 0, k, y⟩], R2, A2, cap2, rfl, rfl, rfl, by go_num, by omega, by omega, by omega, by omega, by omega, Lib.hid (HT.out.next _ (by unfold Nt.bal; simp only; omega) (by simp) rfl ⟨by simp only; exact ⟨by omega, by omega, by omega, by omega, by omega, by omega, by omega, by omega, by omega⟩, by simp only; omega⟩), Lib.hid (by rw [flat_snoc]; exact hR2), Lib.hid (hs2.sub (((List.Sublist.refl _).cons _).cons _))⟩
          case measure => simp [intOf]; omega
        · skip
          clear c0_0 c0_1 c0_2 c1_0 c1_1 c1_2 c1_3 c1_4 c1_5 c1_6
          have c0_0 : w15.cell? ⟨gt, 0, none⟩ = some (.int .i64 0) := HS15.out.cell 0 0 rfl rfl
          have c0_1 : w15.cell? ⟨gt, 1, none⟩ = some (.int .i64 og) := HS15.out.cell 0 1 rfl rfl
          have c0_2 : w15.cell? ⟨gt, 2, none⟩ = some (.int .i64 0) := HS15.out.cell 0 2 rfl rfl
          have c1_0 : w15.cell? ⟨g, 0, none⟩ = some (.int .i64 0) := HS15.out.cell 1 0 rfl rfl
          have c1_1 : w15.cell? ⟨g, 1, none⟩ = some (.int .i64 og) := HS15.out.cell 1 1 rfl rfl
          have c1_2 : w15.cell? ⟨g, 2, none⟩ = some (.int .i64 0) := HS15.out.cell 1 2 rfl rfl
          have c1_3 : w15.cell? ⟨g, 3, none⟩ = some (.int .i64 x) := HS15.out.cell 1 3 rfl rfl
          have c1_4 : w15.cell? ⟨g, 4, none⟩ = some (.int .i64 0) := HS15.out.cell 1 4 rfl rfl
          have c1_5 : w15.cell? ⟨g, 5, none⟩ = some (.int .i64 0) := HS15.out.cell 1 5 rfl rfl
          have c1_6 : w15.cell? ⟨g, 6, none⟩ = some (.int .i64 0) := HS15.out.cell 1 6 rfl rfl
          go_wp2_with fail
          clear c0_0 c0_1 c0_2 c1_0 c1_1 c1_2 c1_3 c1_4 c1_5 c1_6
          refine (oweyes_s 0 og 0 x 0 0 0 k 1 HS15.out rfl ⟨by omega, by omega, by omega, by omega, by omega, by omega, by omega, by omega, by omega⟩ (by omega) (by omega)).mono ?_
          rintro e w16 ⟨rfl, hs⟩
          have HS16 := Lib.hid ((hs.lit (by simp) : Sts w ((gt, #[.int .i64 0, .int .i64 og, .int .i64 0], 23) :: (g, #[.int .i64 0, .int .i64 og, .int .i64 0, .int .i64 x, .int .i64 0, .int .i64 k, .int .i64 0], 27) :: (R ++ [])) w16))
          clear HS15
          clear hs
          have c0_0 : w16.cell? ⟨gt, 0, none⟩ = some (.int .i64 0) := HS16.out.cell 0 0 rfl rfl
          have c0_1 : w16.cell? ⟨gt, 1, none⟩ = some (.int .i64 og) := HS16.out.cell 0 1 rfl rfl
          have c0_2 : w16.cell? ⟨gt, 2, none⟩ = some (.int .i64 0) := HS16.out.cell 0 2 rfl rfl
          have c1_0 : w16.cell? ⟨g, 0, none⟩ = some (.int .i64 0) := HS16.out.cell 1 0 rfl rfl
          have c1_1 : w16.cell? ⟨g, 1, none⟩ = some (.int .i64 og) := HS16.out.cell 1 1 rfl rfl
          have c1_2 : w16.cell? ⟨g, 2, none⟩ = some (.int .i64 0) := HS16.out.cell 1 2 rfl rfl
          have c1_3 : w16.cell? ⟨g, 3, none⟩ = some (.int .i64 x) := HS16.out.cell 1 3 rfl rfl
          have c1_4 : w16.cell? ⟨g, 4, none⟩ = some (.int .i64 0) := HS16.out.cell 1 4 rfl rfl
          have c1_5 : w16.cell? ⟨g, 5, none⟩ = some (.int .i64 k) := HS16.out.cell 1 5 rfl rfl
          have c1_6 : w16.cell? ⟨g, 6, none⟩ = some (.int .i64 0) := HS16.out.cell 1 6 rfl rfl
          clear c0_0 c0_1 c0_2 c1_0 c1_1 c1_2 c1_3 c1_4 c1_5 c1_6
          have c0_0 : w16.cell? ⟨gt, 0, none⟩ = some (.int .i64 0) := HS16.out.cell 0 0 rfl rfl
          have c0_1 : w16.cell? ⟨gt, 1, none⟩ = some (.int .i64 og) := HS16.out.cell 0 1 rfl rfl
          have c0_2 : w16.cell? ⟨gt, 2, none⟩ = some (.int .i64 0) := HS16.out.cell 0 2 rfl rfl
          have c1_0 : w16.cell? ⟨g, 0, none⟩ = some (.int .i64 0) := HS16.out.cell 1 0 rfl rfl
          have c1_1 : w16.cell? ⟨g, 1, none⟩ = some (.int .i64 og) := HS16.out.cell 1 1 rfl rfl
          have c1_2 : w16.cell? ⟨g, 2, none⟩ = some (.int .i64 0) := HS16.out.cell 1 2 rfl rfl
          have c1_3 : w16.cell? ⟨g, 3, none⟩ = some (.int .i64 x) := HS16.out.cell 1 3 rfl rfl
          have c1_4 : w16.cell? ⟨g, 4, none⟩ = some (.int .i64 0) := HS16.out.cell 1 4 rfl rfl
          have c1_5 : w16.cell? ⟨g, 5, none⟩ = some (.int .i64 k) := HS16.out.cell 1 5 rfl rfl
          have c1_6 : w16.cell? ⟨g, 6, none⟩ = some (.int .i64 0) := HS16.out.cell 1 6 rfl rfl
          go_wp2_with (first | (at_builtin; refine row_append rfl (.tmp 79) (.tmp 81) 46 rfl [(gt, #[.int .i64 0, .int .i64 og, .int .i64 0], 23), (g, #[.int .i64 0, .int .i64 og, .int .i64 0, .int .i64 x, .int .i64 0, .int .i64 k, .int .i64 0], 27)] [] Try.underlying46 hi hz hs1 hs2 rfl (by omega) HR.out (HS16.out.skip _) rfl rfl (Src.new (size := 7) (m := 1) rfl rfl) (Nt.one ⟨0, og, 0, x, 0, k, 0⟩) (by omega) (by omega) ?_; rintro R2 A2 cap2 w2 hR2 hs2))
          clear c0_0 c0_1 c0_2 c1_0 c1_1 c1_2 c1_3 c1_4 c1_5 c1_6
          go_roundw
          case rel => exact ⟨k + 1, b + (og - x), d, zs ++ [⟨0, og, 0, x, 0, k, 0⟩], R2, A2, cap2, rfl, rfl, rfl, by go_num, by omega, by omega, by omega, by omega, by omega, Lib.hid (HT.out.next _ (by unfold Nt.bal; simp only; omega) (by simp) rfl ⟨by simp only; exact ⟨by omega, by omega, by omega, by omega, by omega, by omega, by omega, by omega, by omega⟩, by simp only; omega⟩), Lib.hid (by rw [flat_snoc]; exact hR2), Lib.hid (hs2.sub (((List.Sublist.refl _).cons _).cons _))⟩
          case measure => simp [intOf]; omega
      · skip
        go_upto_region 11 with fail
        by_cases r2 : k < n3
        · obtain ⟨ad3, hA3, hc3⟩ := H3.out.at_ k r2
          obtain ⟨l3, u3⟩ := H3.out.bd _ (getD_mem (d := 0) (by rw [H3.out.length]; exact r2))
          replace hc3 := HS14.out.old hc3
          generalize z3.getD k 0 = wrt at hc3 l3 u3
          obtain rfl := hA3
          obtain ⟨y, hy⟩ : ∃ y, y = wi wrt (og - (0 - 0) - 0) := ⟨_, rfl⟩
          have y0 : 0 ≤ y := by rw [hy]; exact wi_bd _ _
          have y1 : y ≤ og - 0 := by rw [hy]; exact Int.le_trans (wi_le _ (by omega)) (by omega)
          have Ey := Lib.hid hy
          clear hy
          clear c0_0 c0_1 c0_2 c1_0 c1_1 c1_2 c1_3 c1_4 c1_5 c1_6
          have c0_0 : v14.cell? ⟨gt, 0, none⟩ = some (.int .i64 0) := HS14.out.cell 0 0 rfl rfl
          have c0_1 : v14.cell? ⟨gt, 1, none⟩ = some (.int .i64 og) := HS14.out.cell 0 1 rfl rfl
          have c0_2 : v14.cell? ⟨gt, 2, none⟩ = some (.int .i64 0) := HS14.out.cell 0 2 rfl rfl
          have c1_0 : v14.cell? ⟨g, 0, none⟩ = some (.int .i64 0) := HS14.out.cell 1 0 rfl rfl
          have c1_1 : v14.cell? ⟨g, 1, none⟩ = some (.int .i64 og) := HS14.out.cell 1 1 rfl rfl
          have c1_2 : v14.cell? ⟨g, 2, none⟩ = some (.int .i64 0) := HS14.out.cell 1 2 rfl rfl
          have c1_3 : v14.cell? ⟨g, 3, none⟩ = some (.int .i64 0) := HS14.out.cell 1 3 rfl rfl
          have c1_4 : v14.cell? ⟨g, 4, none⟩ = some (.int .i64 0) := HS14.out.cell 1 4 rfl rfl
          have c1_5 : v14.cell? ⟨g, 5, none⟩ = some (.int .i64 0) := HS14.out.cell 1 5 rfl rfl
          have c1_6 : v14.cell? ⟨g, 6, none⟩ = some (.int .i64 0) := HS14.out.cell 1 6 rfl rfl
          go_wp2_with fail
          clear c0_0 c0_1 c0_2 c1_0 c1_1 c1_2 c1_3 c1_4 c1_5 c1_6
          refine (write_s y 0 og 0 0 0 0 0 wrt 1 HS14.out rfl ⟨by omega, by omega, by omega, by omega, by omega, by omega, by omega, by omega, by omega⟩ (by omega) (by omega) Ey.out).mono ?_
          rintro e w15 ⟨rfl, hs⟩
          have HS15 := Lib.hid ((hs.lit (by simp) : Sts w ((gt, #[.int .i64 0, .int .i64 og, .int .i64 0], 23) :: (g, #[.int .i64 0, .int .i64 og, .int .i64 0, .int .i64 0, .int .i64 0, .int .i64 0, .int .i64 y], 27) :: (R ++ [])) w15))
          clear HS14
          clear hs
          have c0_0 : w15.cell? ⟨gt, 0, none⟩ = some (.int .i64 0) := HS15.out.cell 0 0 rfl rfl
          have c0_1 : w15.cell? ⟨gt, 1, none⟩ = some (.int .i64 og) := HS15.out.cell 0 1 rfl rfl
          have c0_2 : w15.cell? ⟨gt, 2, none⟩ = some (.int .i64 0) := HS15.out.cell 0 2 rfl rfl
          have c1_0 : w15.cell? ⟨g, 0, none⟩ = some (.int .i64 0) := HS15.out.cell 1 0 rfl rfl
          have c1_1 : w15.cell? ⟨g, 1, none⟩ = some (.int .i64 og) := HS15.out.cell 1 1 rfl rfl
          have c1_2 : w15.cell? ⟨g, 2, none⟩ = some (.int .i64 0) := HS15.out.cell 1 2 rfl rfl
          have c1_3 : w15.cell? ⟨g, 3, none⟩ = some (.int .i64 0) := HS15.out.cell 1 3 rfl rfl
          have c1_4 : w15.cell? ⟨g, 4, none⟩ = some (.int .i64 0) := HS15.out.cell 1 4 rfl rfl
          have c1_5 : w15.cell? ⟨g, 5, none⟩ = some (.int .i64 0) := HS15.out.cell 1 5 rfl rfl
          have c1_6 : w15.cell? ⟨g, 6, none⟩ = some (.int .i64 y) := HS15.out.cell 1 6 rfl rfl
          clear c0_0 c0_1 c0_2 c1_0 c1_1 c1_2 c1_3 c1_4 c1_5 c1_6
          have c0_0 : w15.cell? ⟨gt, 0, none⟩ = some (.int .i64 0) := HS15.out.cell 0 0 rfl rfl
          have c0_1 : w15.cell? ⟨gt, 1, none⟩ = some (.int .i64 og) := HS15.out.cell 0 1 rfl rfl
          have c0_2 : w15.cell? ⟨gt, 2, none⟩ = some (.int .i64 0) := HS15.out.cell 0 2 rfl rfl
          have c1_0 : w15.cell? ⟨g, 0, none⟩ = some (.int .i64 0) := HS15.out.cell 1 0 rfl rfl
          have c1_1 : w15.cell? ⟨g, 1, none⟩ = some (.int .i64 og) := HS15.out.cell 1 1 rfl rfl
          have c1_2 : w15.cell? ⟨g, 2, none⟩ = some (.int .i64 0) := HS15.out.cell 1 2 rfl rfl
          have c1_3 : w15.cell? ⟨g, 3, none⟩ = some (.int .i64 0) := HS15.out.cell 1 3 rfl rfl
          have c1_4 : w15.cell? ⟨g, 4, none⟩ = some (.int .i64 0) := HS15.out.cell 1 4 rfl rfl
          have c1_5 : w15.cell? ⟨g, 5, none⟩ = some (.int .i64 0) := HS15.out.cell 1 5 rfl rfl
          have c1_6 : w15.cell? ⟨g, 6, none⟩ = some (.int .i64 y) := HS15.out.cell 1 6 rfl rfl
          clear hc3
          go_wp2_with fail
          clear c0_0 c0_1 c0_2 c1_0 c1_1 c1_2 c1_3 c1_4 c1_5 c1_6
          refine (oweyes_s 0 og 0 0 0 0 y k 1 HS15.out rfl ⟨by omega, by omega, by omega, by omega, by omega, by omega, by omega, by omega, by omega⟩ (by omega) (by omega)).mono ?_
          rintro e w16 ⟨rfl, hs⟩
          have HS16 := Lib.hid ((hs.lit (by simp) : Sts w ((gt, #[.int .i64 0, .int .i64 og, .int .i64 0], 23) :: (g, #[.int .i64 0, .int .i64 og, .int .i64 0, .int .i64 0, .int .i64 0, .int .i64 k, .int .i64 y], 27) :: (R ++ [])) w16))
          clear HS15
          clear hs
          have c0_0 : w16.cell? ⟨gt, 0, none⟩ = some (.int .i64 0) := HS16.out.cell 0 0 rfl rfl
          have c0_1 : w16.cell? ⟨gt, 1, none⟩ = some (.int .i64 og) := HS16.out.cell 0 1 rfl rfl
          have c0_2 : w16.cell? ⟨gt, 2, none⟩ = some (.int .i64 0) := HS16.out.cell 0 2 rfl rfl
          have c1_0 : w16.cell? ⟨g, 0, none⟩ = some (.int .i64 0) := HS16.out.cell 1 0 rfl rfl
          have c1_1 : w16.cell? ⟨g, 1, none⟩ = some (.int .i64 og) := HS16.out.cell 1 1 rfl rfl
          have c1_2 : w16.cell? ⟨g, 2, none⟩ = some (.int .i64 0) := HS16.out.cell 1 2 rfl rfl
          have c1_3 : w16.cell? ⟨g, 3, none⟩ = some (.int .i64 0) := HS16.out.cell 1 3 rfl rfl
          have c1_4 : w16.cell? ⟨g, 4, none⟩ = some (.int .i64 0) := HS16.out.cell 1 4 rfl rfl
          have c1_5 : w16.cell? ⟨g, 5, none⟩ = some (.int .i64 k) := HS16.out.cell 1 5 rfl rfl
          have c1_6 : w16.cell? ⟨g, 6, none⟩ = some (.int .i64 y) := HS16.out.cell 1 6 rfl rfl
          clear c0_0 c0_1 c0_2 c1_0 c1_1 c1_2 c1_3 c1_4 c1_5 c1_6
          have c0_0 : w16.cell? ⟨gt, 0, none⟩ = some (.int .i64 0) := HS16.out.cell 0 0 rfl rfl
          have c0_1 : w16.cell? ⟨gt, 1, none⟩ = some (.int .i64 og) := HS16.out.cell 0 1 rfl rfl
          have c0_2 : w16.cell? ⟨gt, 2, none⟩ = some (.int .i64 0) := HS16.out.cell 0 2 rfl rfl
          have c1_0 : w16.cell? ⟨g, 0, none⟩ = some (.int .i64 0) := HS16.out.cell 1 0 rfl rfl
          have c1_1 : w16.cell? ⟨g, 1, none⟩ = some (.int .i64 og) := HS16.out.cell 1 1 rfl rfl
          have c1_2 : w16.cell? ⟨g, 2, none⟩ = some (.int .i64 0) := HS16.out.cell 1 2 rfl rfl
          have c1_3 : w16.cell? ⟨g, 3, none⟩ = some (.int .i64 0) := HS16.out.cell 1 3 rfl rfl
          have c1_4 : w16.cell? ⟨g, 4, none⟩ = some (.int .i64 0) := HS16.out.cell 1 4 rfl rfl
          have c1_5 : w16.cell? ⟨g, 5, none⟩ = some (.int .i64 k) := HS16.out.cell 1 5 rfl rfl
          have c1_6 : w16.cell? ⟨g, 6, none⟩ = some (.int .i64 y) := HS16.out.cell 1 6 rfl rfl
          go_wp2_with (first | (at_builtin; refine row_append rfl (.tmp 79) (.tmp 81) 46 rfl [(gt, #[.int .i64 0, .int .i64 og, .int .i64 0], 23), (g, #[.int .i64 0, .int .i64 og, .int .i64 0, .int .i64 0, .int .i64 0, .int .i64 k, .int .i64 y], 27)] [] Try.underlying46 hi hz hs1 hs2 rfl (by omega) HR.out (HS16.out.skip _) rfl rfl (Src.new (size := 7) (m := 1) rfl rfl) (Nt.one ⟨0, og, 0, 0, 0, k, y⟩) (by omega) (by omega) ?_; rintro R2 A2 cap2 w2 hR2 hs2))
          clear c0_0 c0_1 c0_2 c1_0 c1_1 c1_2 c1_3 c1_4 c1_5 c1_6
          go_roundw
          case rel => exact ⟨k + 1, b + (og - y), d + y, zs ++ [⟨0, og, 0, 0, 0, k, y⟩], R2, A2, cap2, rfl, rfl, rfl, by go_num, by omega, by omega, by omega, by omega, by omega, Lib.hid (HT.out.next _ (by unfold Nt.bal; simp only; omega) (by simp) rfl ⟨by simp only; exact ⟨by omega, by omega, by omega, by omega, by omega, by omega, by omega, by omega, by omega⟩, by simp only; omega⟩), Lib.hid (by rw [flat_snoc]; exact hR2), Lib.hid (hs2.sub (((List.Sublist.refl _).cons _).cons _))⟩
          case measure => simp [intOf]; omega
        · skip
          clear c0_0 c0_1 c0_2 c1_0 c1_1 c1_2 c1_3 c1_4 c1_5 c1_6
          have c0_0 : v14.cell? ⟨gt, 0, none⟩ = some (.int .i64 0) := HS14.out.cell 0 0 rfl rfl
          have c0_1 : v14.cell? ⟨gt, 1, none⟩ = some (.int .i64 og) := HS14.out.cell 0 1 rfl rfl
          have c0_2 : v14.cell? ⟨gt, 2, none⟩ = some (.int .i64 0) := HS14.out.cell 0 2 rfl rfl
          have c1_0 : v14.cell? ⟨g, 0, none⟩ = some (.int .i64 0) := HS14.out.cell 1 0 rfl rfl
          have c1_1 : v14.cell? ⟨g, 1, none⟩ = some (.int .i64 og) := HS14.out.cell 1 1 rfl rfl
          have c1_2 : v14.cell? ⟨g, 2, none⟩ = some (.int .i64 0) := HS14.out.cell 1 2 rfl rfl
          have c1_3 : v14.cell? ⟨g, 3, none⟩ = some (.int .i64 0) := HS14.out.cell 1 3 rfl rfl
          have c1_4 : v14.cell? ⟨g, 4, none⟩ = some (.int .i64 0) := HS14.out.cell 1 4 rfl rfl
          have c1_5 : v14.cell? ⟨g, 5, none⟩ = some (.int .i64 0) := HS14.out.cell 1 5 rfl rfl
          have c1_6 : v14.cell? ⟨g, 6, none⟩ = some (.int .i64 0) := HS14.out.cell 1 6 rfl rfl
          go_wp2_with fail
          clear c0_0 c0_1 c0_2 c1_0 c1_1 c1_2 c1_3 c1_4 c1_5 c1_6
          refine (oweyes_s 0 og 0 0 0 0 0 k 1 HS14.out rfl ⟨by omega, by omega, by omega, by omega, by omega, by omega, by omega, by omega, by omega⟩ (by omega) (by omega)).mono ?_
          rintro e w15 ⟨rfl, hs⟩
          have HS15 := Lib.hid ((hs.lit (by simp) : Sts w ((gt, #[.int .i64 0, .int .i64 og, .int .i64 0], 23) :: (g, #[.int .i64 0, .int .i64 og, .int .i64 0, .int .i64 0, .int .i64 0, .int .i64 k, .int .i64 0], 27) :: (R ++ [])) w15))
          clear HS14
          clear hs
          have c0_0 : w15.cell? ⟨gt, 0, none⟩ = some (.int .i64 0) := HS15.out.cell 0 0 rfl rfl
          have c0_1 : w15.cell? ⟨gt, 1, none⟩ = some (.int .i64 og) := HS15.out.cell 0 1 rfl rfl
          have c0_2 : w15.cell? ⟨gt, 2, none⟩ = some (.int .i64 0) := HS15.out.cell 0 2 rfl rfl
          have c1_0 : w15.cell? ⟨g, 0, none⟩ = some (.int .i64 0) := HS15.out.cell 1 0 rfl rfl
          have c1_1 : w15.cell? ⟨g, 1, none⟩ = some (.int .i64 og) := HS15.out.cell 1 1 rfl rfl
          have c1_2 : w15.cell? ⟨g, 2, none⟩ = some (.int .i64 0) := HS15.out.cell 1 2 rfl rfl
          have c1_3 : w15.cell? ⟨g, 3, none⟩ = some (.int .i64 0) := HS15.out.cell 1 3 rfl rfl
          have c1_4 : w15.cell? ⟨g, 4, none⟩ = some (.int .i64 0) := HS15.out.cell 1 4 rfl rfl
          have c1_5 : w15.cell? ⟨g, 5, none⟩ = some (.int .i64 k) := HS15.out.cell 1 5 rfl rfl
          have c1_6 : w15.cell? ⟨g, 6, none⟩ = some (.int .i64 0) := HS15.out.cell 1 6 rfl rfl
          clear c0_0 c0_1 c0_2 c1_0 c1_1 c1_2 c1_3 c1_4 c1_5 c1_6
          have c0_0 : w15.cell? ⟨gt, 0, none⟩ = some (.int .i64 0) := HS15.out.cell 0 0 rfl rfl
          have c0_1 : w15.cell? ⟨gt, 1, none⟩ = some (.int .i64 og) := HS15.out.cell 0 1 rfl rfl
          have c0_2 : w15.cell? ⟨gt, 2, none⟩ = some (.int .i64 0) := HS15.out.cell 0 2 rfl rfl
          have c1_0 : w15.cell? ⟨g, 0, none⟩ = some (.int .i64 0) := HS15.out.cell 1 0 rfl rfl
          have c1_1 : w15.cell? ⟨g, 1, none⟩ = some (.int .i64 og) := HS15.out.cell 1 1 rfl rfl
          have c1_2 : w15.cell? ⟨g, 2, none⟩ = some (.int .i64 0) := HS15.out.cell 1 2 rfl rfl
          have c1_3 : w15.cell? ⟨g, 3, none⟩ = some (.int .i64 0) := HS15.out.cell 1 3 rfl rfl
          have c1_4 : w15.cell? ⟨g, 4, none⟩ = some (.int .i64 0) := HS15.out.cell 1 4 rfl rfl
          have c1_5 : w15.cell? ⟨g, 5, none⟩ = some (.int .i64 k) := HS15.out.cell 1 5 rfl rfl
          have c1_6 : w15.cell? ⟨g, 6, none⟩ = some (.int .i64 0) := HS15.out.cell 1 6 rfl rfl
          go_wp2_with (first | (at_builtin; refine row_append rfl (.tmp 79) (.tmp 81) 46 rfl [(gt, #[.int .i64 0, .int .i64 og, .int .i64 0], 23), (g, #[.int .i64 0, .int .i64 og, .int .i64 0, .int .i64 0, .int .i64 0, .int .i64 k, .int .i64 0], 27)] [] Try.underlying46 hi hz hs1 hs2 rfl (by omega) HR.out (HS15.out.skip _) rfl rfl (Src.new (size := 7) (m := 1) rfl rfl) (Nt.one ⟨0, og, 0, 0, 0, k, 0⟩) (by omega) (by omega) ?_; rintro R2 A2 cap2 w2 hR2 hs2))
          clear c0_0 c0_1 c0_2 c1_0 c1_1 c1_2 c1_3 c1_4 c1_5 c1_6
          go_roundw
          case rel => exact ⟨k + 1, b + (og), d, zs ++ [⟨0, og, 0, 0, 0, k, 0⟩], R2, A2, cap2, rfl, rfl, rfl, by go_num, by omega, by omega, by omega, by omega, by omega, Lib.hid (HT.out.next _ (by unfold Nt.bal; simp only; omega) (by simp) rfl ⟨by simp only; exact ⟨by omega, by omega, by omega, by omega, by omega, by omega, by omega, by omega, by omega⟩, by simp only; omega⟩), Lib.hid (by rw [flat_snoc]; exact hR2), Lib.hid (hs2.sub (((List.Sublist.refl _).cons _).cons _))⟩
          case measure => simp [intOf]; omega
    · have q6 : ¬ k < n1 ∨ (k < n1 ∧ ¬ k < 8) := by omega
      clear q1
      obtain ⟨kk, hkk, hkk0⟩ : ∃ kk : Nat, within cut 0 k = kk ∧ kk ≤ k := ⟨(within cut 0 k).toNat, by have := within_bd cut (lo := 0) (hi := k) (by omega); omega, by have := within_bd cut (lo := 0) (hi := k) (by omega); omega⟩
      have Ekk := Lib.hid hkk
      clear hkk
      rcases q6 with q2 | ⟨q2, q3⟩
      all_goals
        go_upto_region 17 with fail
        go_wp2_with fail
        refine (within_s cut 0 k HSr.out (by omega) (by omega) (by omega)).mono ?_
        rintro e w15 ⟨rfl, hs⟩
        have HS15 := Lib.hid ((hs.lit rfl : Sts w ((R ++ [])) w15))
        clear HSr
        clear hs
        rw [Ekk.out]
        go_upto_region 18 with fail
        go_wp2_with fail
        refine (total_s A k cap zs b (zs.map Nt.sh).sum d HS15.out (Notes.of_src (HR.out.src [] [] HS15.out)) (by omega) HT.out.fine HT.out.bal rfl HT.out.dn).mono ?_
        rintro e w16 ⟨rfl, hs⟩
        have HS16 := Lib.hid ((hs.lit rfl : Sts w ((R ++ [])) w16))
        clear HS15
        clear hs
        go_upto_region 19 with fail
        generalize hsh : (zs.map Nt.sh).sum = s
        have Hsh := Lib.hid hsh
        clear hsh
        have hle := HR.out.le
        have hcap := HR.out.cap_le
        have hkc : kk ≤ cap := Nat.le_trans hkk0 hle
        have HSE := Lib.hid ((Sts.ins [] (R ++ []) HS16.out (g := w16.heap.size) rfl #[] 27).drew)
        have e4 : k - kk + kk = k := by omega
        have hb4 : b = ((zs.drop kk ++ zs.take kk).map Nt.bal).sum := by rw [rot_sum]; exact HT.out.bal
        have hs4' : s = ((zs.drop kk ++ zs.take kk).map Nt.sh).sum := by rw [rot_sum]; exact Hsh.out.symm
        have hd4 : d = ((zs.drop kk ++ zs.take kk).map Nt.dn).sum := by rw [rot_sum]; exact HT.out.dn
        have Xb4 := Lib.hid hb4
        clear hb4
        have Xs4' := Lib.hid hs4'
        clear hs4'
        have Xd4 := Lib.hid hd4
        clear hd4
        go_region_law (first
      | (refine step_row_append (by rfl) (.tmp 94) (.tmp 97) 46 (by rfl) [] (R ++ []) Try.underlying46 hi hz hs1 hs2 (by rfl) (by omega) (Row.empty _ _ _) HSE.out (by rfl) (by rfl) (HR.out.src_dropN [_] [] HSE.out hkk0) (Nt.ones _) (by omega) (by omega) ?_; rintro R3 A3' cap3 w3 hR3 hs3; simp only [Nat.zero_add, List.nil_append] at hR3 ⊢)
      | (refine step_row_append (by rfl) (.tmp 98) (.tmp 101) 46 (by rfl) [] (R ++ []) Try.underlying46 hi hz hs1 hs2 (by rfl) (by omega) hR3 hs3 (by rfl) (by rfl) (HR.out.src_takeN R3 [] hs3 hkk0) (Nt.ones _) (by omega) (by omega) ?_; rintro R4 A4 cap4 w4 hR4 hs4; simp only [e4] at hR4 ⊢; have hN4 : Notes w4 A4 k (zs.drop kk ++ zs.take kk) := Notes.of_src ((Row.lit hR4 (by rw [List.flatMap_append])).src [] (R ++ []) hs4))
      | (go_simp; go_at_call 28; refine (total_s A4 k cap4 (zs.drop kk ++ zs.take kk) b s d hs4 hN4 (by omega) (HT.out.fine_rot kk) Xb4.out Xs4'.out Xd4.out).mono ?_; rintro e w5 ⟨rfl, hs5⟩))
        generalize (if cap = kk then A else Option.map (fun x => x.add (kk * 7)) A) = AA
        have HS50 := Lib.hid hs5
        clear hs5 hs4 hs3 hR3 hR4 hN4 Xb4 Xs4' Xd4 HSE HS16
        go_upto_region 20 with fail
        go_wp2_with fail
        refine (total_s none 0 0 [] 0 0 0 HS50.out (Notes.of_src (Src.nil _ _)) (by omega) (by simp) rfl rfl rfl).mono ?_
        rintro e w51 ⟨rfl, hs⟩
        have HS51 := Lib.hid ((hs.lit rfl : Sts w ((R4 ++ (R ++ []))) w51))
        clear HS50
        clear hs
        go_upto_region 21 with fail
        have e5 : 2 * s = (k : Int) * (k - 1) := by rw [← Hsh.out]; exact HT.out.sh
        rcases (by omega : k = 0 ∨ k = 1 ∨ k = 2 ∨ k = 3 ∨ k = 4 ∨ k = 5 ∨ k = 6 ∨ k = 7 ∨ k = 8) with rfl | rfl | rfl | rfl | rfl | rfl | rfl | rfl | rfl
        · obtain rfl : s = 0 := by omega
          clear e4 hkc hle hkk0 e5
          go_wp2_with fail
          refine (noteRuns_s HS51.out).mono ?_
          rintro e w52 ⟨rfl, hs⟩
          have HS52 := Lib.hid ((hs.lit rfl : Sts w ((R4 ++ (R ++ []))) w52))
          clear HS51
          clear hs
          go_wp2_with fail
          go_ret
          exact ⟨rfl, HS52.out.bel⟩
        · obtain rfl : s = 0 := by omega
          clear e4 hkc hle hkk0 e5
          go_wp2_with fail
          refine (noteRuns_s HS51.out).mono ?_
          rintro e w52 ⟨rfl, hs⟩
          have HS52 := Lib.hid ((hs.lit rfl : Sts w ((R4 ++ (R ++ []))) w52))
          clear HS51
          clear hs
          go_wp2_with fail
          go_ret
          exact ⟨rfl, HS52.out.bel⟩
        · obtain rfl : s = 1 := by omega
          clear e4 hkc hle hkk0 e5
          go_wp2_with fail
          refine (noteRuns_s HS51.out).mono ?_
          rintro e w52 ⟨rfl, hs⟩
          have HS52 := Lib.hid ((hs.lit rfl : Sts w ((R4 ++ (R ++ []))) w52))
          clear HS51
          clear hs
          go_wp2_with fail
          go_ret
          exact ⟨rfl, HS52.out.bel⟩
        · obtain rfl : s = 3 := by omega
          clear e4 hkc hle hkk0 e5
          go_wp2_with fail
          refine (noteRuns_s HS51.out).mono ?_
          rintro e w52 ⟨rfl, hs⟩
          have HS52 := Lib.hid ((hs.lit rfl : Sts w ((R4 ++ (R ++ []))) w52))
          clear HS51
          clear hs
          go_wp2_with fail
          go_ret
          exact ⟨rfl, HS52.out.bel⟩
        · obtain rfl : s = 6 := by omega
          clear e4 hkc hle hkk0 e5
          go_wp2_with fail
          refine (noteRuns_s HS51.out).mono ?_
          rintro e w52 ⟨rfl, hs⟩
          have HS52 := Lib.hid ((hs.lit rfl : Sts w ((R4 ++ (R ++ []))) w52))
          clear HS51
          clear hs
          go_wp2_with fail
          go_ret
          exact ⟨rfl, HS52.out.bel⟩
        · obtain rfl : s = 10 := by omega
          clear e4 hkc hle hkk0 e5
          go_wp2_with fail
          refine (noteRuns_s HS51.out).mono ?_
          rintro e w52 ⟨rfl, hs⟩
          have HS52 := Lib.hid ((hs.lit rfl : Sts w ((R4 ++ (R ++ []))) w52))
          clear HS51
          clear hs
          go_wp2_with fail
          go_ret
          exact ⟨rfl, HS52.out.bel⟩
        · obtain rfl : s = 15 := by omega
          clear e4 hkc hle hkk0 e5
          go_wp2_with fail
          refine (noteRuns_s HS51.out).mono ?_
          rintro e w52 ⟨rfl, hs⟩
          have HS52 := Lib.hid ((hs.lit rfl : Sts w ((R4 ++ (R ++ []))) w52))
          clear HS51
          clear hs
          go_wp2_with fail
          go_ret
          exact ⟨rfl, HS52.out.bel⟩
        · obtain rfl : s = 21 := by omega
          clear e4 hkc hle hkk0 e5
          go_wp2_with fail
          refine (noteRuns_s HS51.out).mono ?_
          rintro e w52 ⟨rfl, hs⟩
          have HS52 := Lib.hid ((hs.lit rfl : Sts w ((R4 ++ (R ++ []))) w52))
          clear HS51
          clear hs
          go_wp2_with fail
          go_ret
          exact ⟨rfl, HS52.out.bel⟩
        · obtain rfl : s = 28 := by omega
          clear e4 hkc hle hkk0 e5
          go_wp2_with fail
          refine (noteRuns_s HS51.out).mono ?_
          rintro e w52 ⟨rfl, hs⟩
          have HS52 := Lib.hid ((hs.lit rfl : Sts w ((R4 ++ (R ++ []))) w52))
          clear HS51
          clear hs
          go_wp2_with fail
          go_ret
          exact ⟨rfl, HS52.out.bel⟩

end Go.Proofs.Ytllbpjaiplnbnaa

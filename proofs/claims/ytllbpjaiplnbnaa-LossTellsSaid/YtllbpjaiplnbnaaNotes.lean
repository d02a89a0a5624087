import Derived.Test.YtllbpjaiplnbnaaNoteRuns
import Derived.Test.YtllbpjaiplnbnaaRow
namespace Go.Proofs.Ytllbpjaiplnbnaa
open Go.RowKit
set_option linter.unusedVariables false
set_option linter.unusedSimpArgs false
/-- A note, written out. -/
structure Nt where
  r : Int
  og : Int
  rt : Int
  i : Int
  j : Int
  sh : Int
  dn : Int
def Nt.c (z : Nt) : List Value := [.int .i64 z.r, .int .i64 z.og, .int .i64 z.rt, .int .i64 z.i, .int .i64 z.j, .int .i64 z.sh, .int .i64 z.dn]
theorem Nt.c_length (z : Nt) : z.c.length = 7 := rfl
def Nt.bal (z : Nt) : Int := z.og - (z.i - z.j) - z.dn
/-- A list of notes reads as zs. -/
structure Notes (w : World) (a : Option Addr) (n : Nat) (zs : List Nt) : Prop where
  length : zs.length = n
  at_ : ∀ i z, zs[i]? = some z → ∃ ad : Addr, a = some ad ∧ w.cell? (ad.add (i * 7)) = some (.int .i64 z.r) ∧ w.cell? ⟨(ad.add (i * 7)).block, (ad.add (i * 7)).off + 1, none⟩ = some (.int .i64 z.og) ∧ w.cell? ⟨(ad.add (i * 7)).block, (ad.add (i * 7)).off + 2, none⟩ = some (.int .i64 z.rt) ∧
    w.cell? ⟨(ad.add (i * 7)).block, (ad.add (i * 7)).off + 3, none⟩ = some (.int .i64 z.i) ∧ w.cell? ⟨(ad.add (i * 7)).block, (ad.add (i * 7)).off + 4, none⟩ = some (.int .i64 z.j) ∧ w.cell? ⟨(ad.add (i * 7)).block, (ad.add (i * 7)).off + 5, none⟩ = some (.int .i64 z.sh) ∧ w.cell? ⟨(ad.add (i * 7)).block, (ad.add (i * 7)).off + 6, none⟩ = some (.int .i64 z.dn)
theorem add_step (ad : Addr) (m j : Nat) (hj : 0 < j) : ad.add (m + j) = ⟨(ad.add m).block, (ad.add m).off + j, none⟩ := by
  unfold Addr.add
  split <;> split <;> simp_all <;> omega
theorem Notes.of_src {w : World} {a : Option Addr} {n : Nat} {zs : List Nt} (h : Src w a n 7 (zs.flatMap Nt.c)) : Notes w a n zs := by
  have hl : zs.length = n := by have := h.1; rw [flat_length Nt.c 7 Nt.c_length] at this; omega
  refine ⟨hl, fun i z hz => ?_⟩
  have hi : i < zs.length := (List.getElem?_eq_some_iff.1 hz).1
  obtain ⟨ad, e, hc⟩ := h.2 (by omega)
  have g : ∀ j u, j < 7 → z.c[j]? = some u → w.cell? (ad.add (i * 7 + j)) = some u := fun j u hj hu => hc _ _ (by rw [flat_get Nt.c 7 Nt.c_length zs i j z hz hj]; exact hu)
  refine ⟨ad, e, g 0 _ (by omega) rfl, ?_, ?_, ?_, ?_, ?_, ?_⟩
  · rw [← add_step ad _ 1 (by omega)]; exact g 1 _ (by omega) rfl
  · rw [← add_step ad _ 2 (by omega)]; exact g 2 _ (by omega) rfl
  · rw [← add_step ad _ 3 (by omega)]; exact g 3 _ (by omega) rfl
  · rw [← add_step ad _ 4 (by omega)]; exact g 4 _ (by omega) rfl
  · rw [← add_step ad _ 5 (by omega)]; exact g 5 _ (by omega) rfl
  · rw [← add_step ad _ 6 (by omega)]; exact g 6 _ (by omega) rfl
theorem take_next {α : Type} (f : α → Int) (zs : List α) (k : Nat) (z : α) (hz : zs[k]? = some z) : ((zs.take (k + 1)).map f).sum = ((zs.take k).map f).sum + f z := by
  rw [List.take_add_one, hz]; simp
theorem zs_next (zs : List Nt) (k : Nat) (z : Nt) (hz : zs[k]? = some z) : ((zs.take (k + 1)).map Nt.bal).sum = ((zs.take k).map Nt.bal).sum + z.bal ∧ ((zs.take (k + 1)).map Nt.sh).sum = ((zs.take k).map Nt.sh).sum + z.sh ∧ ((zs.take (k + 1)).map Nt.dn).sum = ((zs.take k).map Nt.dn).sum + z.dn := ⟨take_next _ _ _ _ hz, take_next _ _ _ _ hz, take_next _ _ _ _ hz⟩
/-- Notes that may be reckoned together. -/
def Fine (z : Nt) : Prop := Fair z.og z.i z.j z.sh z.dn ∧ z.sh ≤ 9007199254740992
set_option maxHeartbeats 2000000 in
set_option maxRecDepth 100000 in
theorem total_calls (A : Option Addr) (n cap : Nat) (zs : List Nt) (w : World) (hN : Notes w A n zs) (hn : n ≤ 64) (hF : ∀ z ∈ zs, Fine z) :
    Calls Try.prog 28 #[.slice A n cap] w fun e w' => e = .returned (.tuple #[.int .i64 (zs.map Nt.bal).sum, .int .i64 (zs.map Nt.sh).sum, .int .i64 (zs.map Nt.dn).sum]) ∧ Below w.heap.size w w' := by
  have HN := Lib.hid hN
  have HF := Lib.hid hF
  clear hN hF
  have HS0 := Lib.hid (Sts.nil w)
  go_enter Try.func28, Try.ntmps28
  go_wp2_with fail
  go_loopw [2, 3, 4, 9] (fun v2 v3 v4 v9 wr => ∃ (k : Nat) (b s d : Int), v2 = .int .i64 b ∧ v3 = .int .i64 s ∧ v4 = .int .i64 d ∧ v9 = .int .i64 k ∧ k ≤ n ∧ -9007199254740992 * k ≤ b ∧ b ≤ 9007199254740992 * k ∧ 0 ≤ s ∧ s ≤ 9007199254740992 * k ∧ -9007199254740992 * k ≤ d ∧ d ≤ 9007199254740992 * k ∧ Hid (b = ((zs.take k).map Nt.bal).sum ∧ s = ((zs.take k).map Nt.sh).sum ∧ d = ((zs.take k).map Nt.dn).sum) ∧ Hid (Sts w [] wr)) (fun _ _ _ v9 _ => n - (intOf v9).toNat)
  case atStart => exact ⟨0, 0, 0, 0, rfl, rfl, rfl, rfl, by omega, by omega, by omega, by omega, by omega, by omega, by omega, ⟨rfl, rfl, rfl⟩, HS0⟩
  case round =>
    obtain ⟨k, b, s, d, rfl, rfl, rfl, rfl, hk, b0, b1, s0, s1, d0, d1, HE, HSr⟩ := hrel
    clear HS0
    by_cases q1 : k < n
    · obtain ⟨z, hz⟩ : ∃ z, zs[k]? = some z := ⟨_, List.getElem?_eq_getElem (by rw [HN.out.length]; exact q1)⟩
      obtain ⟨ad, hA, h0, h1, h2, h3, h4, h5, h6⟩ := HN.out.at_ k z hz
      obtain ⟨⟨a0, a1, a2, a3, a4, a5, a6, a7, a8⟩, a9⟩ := HF.out z (List.mem_of_getElem? hz)
      replace h0 := HSr.out.old h0
      replace h1 := HSr.out.old h1
      replace h2 := HSr.out.old h2
      replace h3 := HSr.out.old h3
      replace h4 := HSr.out.old h4
      replace h5 := HSr.out.old h5
      replace h6 := HSr.out.old h6
      have HZ := Lib.hid (zs_next zs k z hz)
      clear hz
      obtain rfl := hA
      obtain ⟨r, og, rt, i, j, sh, dn⟩ := z
      simp only at h0 h1 h2 h3 h4 h5 h6 a0 a1 a2 a3 a4 a5 a6 a7 a8 a9
      go_upto_region 4 with fail
      have HS11 := Lib.hid ((HSr.out.add (g := wr.heap.size) (by simp) #[.int .i64 r, .int .i64 og, .int .i64 rt, .int .i64 i, .int .i64 j, .int .i64 sh, .int .i64 dn] 27).lit (L' := [(wr.heap.size, #[.int .i64 r, .int .i64 og, .int .i64 rt, .int .i64 i, .int .i64 j, .int .i64 sh, .int .i64 dn], 27)]) rfl)
      clear HSr
      generalize wr.heap.size = g at *
      generalize (wr.alloc (.cells #[.int .i64 r, .int .i64 og, .int .i64 rt, .int .i64 i, .int .i64 j, .int .i64 sh, .int .i64 dn] 27)) = v11 at *
      have c0_0 : v11.cell? ⟨g, 0, none⟩ = some (.int .i64 r) := HS11.out.cell 0 0 rfl rfl
      have c0_1 : v11.cell? ⟨g, 1, none⟩ = some (.int .i64 og) := HS11.out.cell 0 1 rfl rfl
      have c0_2 : v11.cell? ⟨g, 2, none⟩ = some (.int .i64 rt) := HS11.out.cell 0 2 rfl rfl
      have c0_3 : v11.cell? ⟨g, 3, none⟩ = some (.int .i64 i) := HS11.out.cell 0 3 rfl rfl
      have c0_4 : v11.cell? ⟨g, 4, none⟩ = some (.int .i64 j) := HS11.out.cell 0 4 rfl rfl
      have c0_5 : v11.cell? ⟨g, 5, none⟩ = some (.int .i64 sh) := HS11.out.cell 0 5 rfl rfl
      have c0_6 : v11.cell? ⟨g, 6, none⟩ = some (.int .i64 dn) := HS11.out.cell 0 6 rfl rfl
      clear h0 h1 h2 h3 h4 h5 h6
      go_wp2_with fail
      clear c0_0 c0_1 c0_2 c0_3 c0_4 c0_5 c0_6
      refine (balance_s (og - (i - j) - dn) r og rt i j sh dn HS11.out ⟨by omega, by omega, by omega, by omega, by omega, by omega, by omega, by omega, by omega⟩ rfl).mono ?_
      rintro e w12 ⟨rfl, hs⟩
      have HS12 := Lib.hid ((hs.lit rfl : Sts w [(g, #[.int .i64 r, .int .i64 og, .int .i64 rt, .int .i64 i, .int .i64 j, .int .i64 sh, .int .i64 dn], 27)] w12))
      clear HS11
      clear hs
      have c0_0 : w12.cell? ⟨g, 0, none⟩ = some (.int .i64 r) := HS12.out.cell 0 0 rfl rfl
      have c0_1 : w12.cell? ⟨g, 1, none⟩ = some (.int .i64 og) := HS12.out.cell 0 1 rfl rfl
      have c0_2 : w12.cell? ⟨g, 2, none⟩ = some (.int .i64 rt) := HS12.out.cell 0 2 rfl rfl
      have c0_3 : w12.cell? ⟨g, 3, none⟩ = some (.int .i64 i) := HS12.out.cell 0 3 rfl rfl
      have c0_4 : w12.cell? ⟨g, 4, none⟩ = some (.int .i64 j) := HS12.out.cell 0 4 rfl rfl
      have c0_5 : w12.cell? ⟨g, 5, none⟩ = some (.int .i64 sh) := HS12.out.cell 0 5 rfl rfl
      have c0_6 : w12.cell? ⟨g, 6, none⟩ = some (.int .i64 dn) := HS12.out.cell 0 6 rfl rfl
      go_wp2_with fail
      clear c0_0 c0_1 c0_2 c0_3 c0_4 c0_5 c0_6
      go_roundw
      case rel => exact ⟨k + 1, b + (og - (i - j) - dn), s + sh, d + dn, rfl, rfl, rfl, by go_num, by omega, by omega, by omega, by omega, by omega, by omega, by omega, ⟨by rw [HE.out.1, (HZ.out.1)]; rfl, by rw [HE.out.2.1, (HZ.out.2.1)], by rw [HE.out.2.2, (HZ.out.2.2)]⟩, Lib.hid ((HS12.out.take 0).lit rfl)⟩
      case measure => simp [intOf]; omega
    · obtain rfl : k = n := by omega
      have hl := HN.out.length
      have hE := HE.out
      rw [List.take_of_length_le (by omega)] at hE
      obtain ⟨e1, e2, e3⟩ := hE
      have HE2 := Lib.hid (And.intro e1 (And.intro e2 e3))
      clear e1 e2 e3 hl
      go_wp2_with fail
      go_ret3
      exact ⟨by rw [HE2.out.1, HE2.out.2.1, HE2.out.2.2]; rfl, HSr.out.bel⟩

theorem total_s {w0 W : World} {L : List Ent} (A : Option Addr) (n cap : Nat) (zs : List Nt) (x y d : Int) (hS : Sts w0 L W) (hN : Notes W A n zs) (hn : n ≤ 64) (hF : ∀ z ∈ zs, Fine z) (hx : x = (zs.map Nt.bal).sum) (hy : y = (zs.map Nt.sh).sum) (hd : d = (zs.map Nt.dn).sum) :
    Calls Try.prog 28 #[.slice A n cap] W (Goes (.tuple #[.int .i64 x, .int .i64 y, .int .i64 d]) w0 L) := by
  subst hx hy hd
  exact (total_calls A n cap zs W hN hn hF).mono fun _ _ h => ⟨h.1, hS.below h.2⟩
end Go.Proofs.Ytllbpjaiplnbnaa

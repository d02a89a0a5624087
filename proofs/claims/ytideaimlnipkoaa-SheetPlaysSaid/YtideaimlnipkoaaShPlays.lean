import Derived.Test.YtideaimlnipkoaaShPRound
import Derived.Test.YtideaimlnipkoaaShG
namespace Go.Proofs.Ytideaimlnipkoaa
open Go.RowKit
set_option linter.unusedVariables false
set_option linter.unusedSimpArgs false
attribute [local go_sem] bmax2 bmin2 bmax_two bmin_two bmax_three bmin_three
set_option maxHeartbeats 8000000 in
set_option maxRecDepth 1000000 in
theorem sheetPlays_walk (K0 : Int) (A1 : Option Addr) (n1 c1 : Nat) (f : Nat → SAsk) (w : World) (hK0 : -9223372036854775808 ≤ K0 ∧ K0 ≤ 9223372036854775807) (h1 : SAsksIn w A1 n1 f) :
    Calls Try.prog 7 #[.int .i64 K0, .slice A1 n1 c1] w fun e w' => e = .returned (.bool true) ∧ Below w.heap.size w w' := by
  have HS0 := Lib.hid (Sts.nil w)
  have H1 := Lib.hid h1
  have hmost := h1.most
  clear h1 hK0
  obtain ⟨m, hm⟩ : ∃ m : Nat, max 0 (min K0 64) = (m : Int) := ⟨(max 0 (min K0 64)).toNat, by omega⟩
  have t1 : min (max K0 0) 64 = (m : Int) := by omega
  have hm64 : m ≤ 64 := by omega
  have hmi := fun W => make_ints m (by omega) W
  rw [ZI_eq] at hmi
  have HMI := Lib.hid hmi
  clear hmi
  go_enter Try.func7, Try.ntmps7
  go_wp2_with fail
  refine (new_calls (w0 := w) (L := []) K0 m hm HS0.out).mono ?_
  rintro e w1 ⟨g0, rfl, hs⟩
  have S1 := Lib.hid hs
  have S2 := Lib.hid (hs.join ((Sts.nil w1).add (g := w1.heap.size) rfl (is (List.replicate m 0)).toArray 3))
  have hmi := HMI.out
  clear hs HS0 hm
  have R2 : Hid (Row [(w1.heap.size, (is (List.replicate m 0)).toArray, 3)] 3 1 (some ⟨w1.heap.size, 0, none⟩) m m (is (List.replicate m 0))) := Lib.hid ⟨by simp [is], Nat.le_refl _, by unfold maxLen; omega, .inr ⟨_, _, rfl, rfl, by simp [is], by rw [List.take_of_length_le (by simp [is])]⟩⟩
  go_upto_region 6 with fail
  clear hmi HMI
  generalize w1.alloc (.cells (is (List.replicate m 0)).toArray 3) = w2 at *
  generalize w1.heap.size = gw at *
  have P1 : Hid (Play w g0 (List.replicate m 0) 0 m [(gw, (is (List.replicate m 0)).toArray, 3)] (some ⟨gw, 0, none⟩) m 0 w2) := Lib.hid ⟨S2.out, R2.out, by simp, fun x hx => by rw [List.eq_of_mem_replicate hx]; omega, by omega, hm64⟩
  clear S1 S2 R2
  go_wp2_with fail
  refine play_loop w K0 A1 n1 c1 g0 m f _ _ _ _ _ _ _ _ _ _ _ _ _ _ _ _ _ _ _ _ _ _ _ _ _ _ _ _ _ _ _ _ _ _ _ _ _ _ _ _ _ _ _ _ _ _ _ _ _ _ _ _ _ _ _ _ _ _ _ _ _ _ _ _ _ _ _ _ _ _ _ _ _ _ _ _ _ _ _ _ _ _ _ _ _ _ _ _ _ _ _ _ _ _ _ _ _ _ _ _ _ _ _ _ _ _ _ _ _ _ _ _ _ _ _ _ _ _ _ _ _ _ _ _ _ _ _ _ _ _ _ _ _ _ _ _ _ _ _ _ _ _ _ _ _ _ _ _ _ _ _ _ _ _ _ _ _ _ _ _ _ _ _ _ _ _ _ _ _ _ _ _ _ _ _ _ _ _ _ _ _ _ _ _ _ _ _ _ _ _ _ _ _ _ _ _ _ _ _ _ _ _ _ _ _ _ _ _ _ _ _ _ _ _ _ _ _ _ _ _ _ _ _ _ _ _ _ _ _ _ _ _ _ _ _ _ _ _ _ _ _ _ _ _ _ hmost H1 P1 ?_
  intro a' w'' hX
  clear P1 H1
  unfold PlayX at hX
  obtain ⟨u0, hX⟩ := hX
  obtain ⟨u1, hX⟩ := hX
  obtain ⟨u4, hX⟩ := hX
  obtain ⟨u5, hX⟩ := hX
  obtain ⟨u6, hX⟩ := hX
  obtain ⟨u7, hX⟩ := hX
  obtain ⟨u8, hX⟩ := hX
  obtain ⟨u9, hX⟩ := hX
  obtain ⟨u10, hX⟩ := hX
  obtain ⟨u11, hX⟩ := hX
  obtain ⟨u12, hX⟩ := hX
  obtain ⟨u13, hX⟩ := hX
  obtain ⟨u14, hX⟩ := hX
  obtain ⟨u15, hX⟩ := hX
  obtain ⟨u16, hX⟩ := hX
  obtain ⟨u17, hX⟩ := hX
  obtain ⟨u18, hX⟩ := hX
  obtain ⟨u19, hX⟩ := hX
  obtain ⟨u20, hX⟩ := hX
  obtain ⟨u21, hX⟩ := hX
  obtain ⟨u31, hX⟩ := hX
  obtain ⟨u32, hX⟩ := hX
  obtain ⟨u33, hX⟩ := hX
  obtain ⟨u34, hX⟩ := hX
  obtain ⟨u35, hX⟩ := hX
  obtain ⟨u36, hX⟩ := hX
  obtain ⟨u37, hX⟩ := hX
  obtain ⟨u38, hX⟩ := hX
  obtain ⟨u39, hX⟩ := hX
  obtain ⟨u40, hX⟩ := hX
  obtain ⟨u41, hX⟩ := hX
  obtain ⟨u42, hX⟩ := hX
  obtain ⟨u43, hX⟩ := hX
  obtain ⟨u44, hX⟩ := hX
  obtain ⟨u45, hX⟩ := hX
  obtain ⟨u46, hX⟩ := hX
  obtain ⟨u47, hX⟩ := hX
  obtain ⟨u48, hX⟩ := hX
  obtain ⟨u49, hX⟩ := hX
  obtain ⟨u50, hX⟩ := hX
  obtain ⟨u51, hX⟩ := hX
  obtain ⟨u52, hX⟩ := hX
  obtain ⟨u53, hX⟩ := hX
  obtain ⟨u54, hX⟩ := hX
  obtain ⟨u55, hX⟩ := hX
  obtain ⟨u56, hX⟩ := hX
  obtain ⟨u57, hX⟩ := hX
  obtain ⟨u58, hX⟩ := hX
  obtain ⟨u59, hX⟩ := hX
  obtain ⟨u60, hX⟩ := hX
  obtain ⟨u61, hX⟩ := hX
  obtain ⟨u62, hX⟩ := hX
  obtain ⟨u63, hX⟩ := hX
  obtain ⟨u64, hX⟩ := hX
  obtain ⟨u65, hX⟩ := hX
  obtain ⟨u66, hX⟩ := hX
  obtain ⟨u67, hX⟩ := hX
  obtain ⟨u68, hX⟩ := hX
  obtain ⟨u69, hX⟩ := hX
  obtain ⟨u70, hX⟩ := hX
  obtain ⟨u71, hX⟩ := hX
  obtain ⟨u72, hX⟩ := hX
  obtain ⟨u73, hX⟩ := hX
  obtain ⟨u74, hX⟩ := hX
  obtain ⟨u75, hX⟩ := hX
  obtain ⟨u76, hX⟩ := hX
  obtain ⟨u77, hX⟩ := hX
  obtain ⟨u78, hX⟩ := hX
  obtain ⟨u79, hX⟩ := hX
  obtain ⟨u80, hX⟩ := hX
  obtain ⟨u81, hX⟩ := hX
  obtain ⟨u82, hX⟩ := hX
  obtain ⟨u83, hX⟩ := hX
  obtain ⟨u84, hX⟩ := hX
  obtain ⟨u85, hX⟩ := hX
  obtain ⟨u86, hX⟩ := hX
  obtain ⟨u87, hX⟩ := hX
  obtain ⟨u88, hX⟩ := hX
  obtain ⟨u89, hX⟩ := hX
  obtain ⟨u90, hX⟩ := hX
  obtain ⟨u91, hX⟩ := hX
  obtain ⟨u92, hX⟩ := hX
  obtain ⟨u93, hX⟩ := hX
  obtain ⟨u94, hX⟩ := hX
  obtain ⟨u95, hX⟩ := hX
  obtain ⟨u96, hX⟩ := hX
  obtain ⟨u97, hX⟩ := hX
  obtain ⟨u98, hX⟩ := hX
  obtain ⟨u99, hX⟩ := hX
  obtain ⟨u100, hX⟩ := hX
  obtain ⟨u101, hX⟩ := hX
  obtain ⟨u102, hX⟩ := hX
  obtain ⟨u103, hX⟩ := hX
  obtain ⟨u104, hX⟩ := hX
  obtain ⟨u105, hX⟩ := hX
  obtain ⟨u106, hX⟩ := hX
  obtain ⟨u107, hX⟩ := hX
  obtain ⟨u108, hX⟩ := hX
  obtain ⟨u109, hX⟩ := hX
  obtain ⟨u110, hX⟩ := hX
  obtain ⟨u111, hX⟩ := hX
  obtain ⟨u112, hX⟩ := hX
  obtain ⟨u113, hX⟩ := hX
  obtain ⟨u114, hX⟩ := hX
  obtain ⟨u115, hX⟩ := hX
  obtain ⟨u116, hX⟩ := hX
  obtain ⟨u117, hX⟩ := hX
  obtain ⟨u118, hX⟩ := hX
  obtain ⟨u119, hX⟩ := hX
  obtain ⟨u120, hX⟩ := hX
  obtain ⟨u121, hX⟩ := hX
  obtain ⟨u122, hX⟩ := hX
  obtain ⟨u123, hX⟩ := hX
  obtain ⟨u124, hX⟩ := hX
  obtain ⟨u125, hX⟩ := hX
  obtain ⟨u126, hX⟩ := hX
  obtain ⟨u127, hX⟩ := hX
  obtain ⟨u128, hX⟩ := hX
  obtain ⟨u129, hX⟩ := hX
  obtain ⟨u130, hX⟩ := hX
  obtain ⟨u131, hX⟩ := hX
  obtain ⟨u132, hX⟩ := hX
  obtain ⟨u133, hX⟩ := hX
  obtain ⟨u134, hX⟩ := hX
  obtain ⟨u135, hX⟩ := hX
  obtain ⟨u136, hX⟩ := hX
  obtain ⟨u137, hX⟩ := hX
  obtain ⟨u138, hX⟩ := hX
  obtain ⟨u139, hX⟩ := hX
  obtain ⟨u140, hX⟩ := hX
  obtain ⟨u141, hX⟩ := hX
  obtain ⟨u142, hX⟩ := hX
  obtain ⟨u143, hX⟩ := hX
  obtain ⟨u144, hX⟩ := hX
  obtain ⟨u145, hX⟩ := hX
  obtain ⟨u146, hX⟩ := hX
  obtain ⟨u147, hX⟩ := hX
  obtain ⟨u148, hX⟩ := hX
  obtain ⟨u149, hX⟩ := hX
  obtain ⟨u150, hX⟩ := hX
  obtain ⟨u151, hX⟩ := hX
  obtain ⟨u152, hX⟩ := hX
  obtain ⟨u153, hX⟩ := hX
  obtain ⟨u154, hX⟩ := hX
  obtain ⟨u155, hX⟩ := hX
  obtain ⟨u156, hX⟩ := hX
  obtain ⟨u157, hX⟩ := hX
  obtain ⟨u158, hX⟩ := hX
  obtain ⟨u159, hX⟩ := hX
  obtain ⟨u160, hX⟩ := hX
  obtain ⟨u161, hX⟩ := hX
  obtain ⟨u162, hX⟩ := hX
  obtain ⟨u163, hX⟩ := hX
  obtain ⟨u164, hX⟩ := hX
  obtain ⟨u165, hX⟩ := hX
  obtain ⟨u166, hX⟩ := hX
  obtain ⟨u167, hX⟩ := hX
  obtain ⟨u168, hX⟩ := hX
  obtain ⟨u169, hX⟩ := hX
  obtain ⟨u170, hX⟩ := hX
  obtain ⟨u171, hX⟩ := hX
  obtain ⟨u172, hX⟩ := hX
  obtain ⟨u173, hX⟩ := hX
  obtain ⟨u174, hX⟩ := hX
  obtain ⟨u175, hX⟩ := hX
  obtain ⟨u176, hX⟩ := hX
  obtain ⟨u177, hX⟩ := hX
  obtain ⟨u178, hX⟩ := hX
  obtain ⟨u179, hX⟩ := hX
  obtain ⟨u180, hX⟩ := hX
  obtain ⟨u181, hX⟩ := hX
  obtain ⟨u182, hX⟩ := hX
  obtain ⟨u183, hX⟩ := hX
  obtain ⟨u184, hX⟩ := hX
  obtain ⟨u185, hX⟩ := hX
  obtain ⟨u186, hX⟩ := hX
  obtain ⟨u187, hX⟩ := hX
  obtain ⟨u188, hX⟩ := hX
  obtain ⟨u189, hX⟩ := hX
  obtain ⟨u190, hX⟩ := hX
  obtain ⟨u191, hX⟩ := hX
  obtain ⟨u192, hX⟩ := hX
  obtain ⟨u193, hX⟩ := hX
  obtain ⟨u194, hX⟩ := hX
  obtain ⟨u195, hX⟩ := hX
  obtain ⟨u196, hX⟩ := hX
  obtain ⟨u197, hX⟩ := hX
  obtain ⟨u198, hX⟩ := hX
  obtain ⟨u199, hX⟩ := hX
  obtain ⟨u200, hX⟩ := hX
  obtain ⟨u201, hX⟩ := hX
  obtain ⟨u202, hX⟩ := hX
  obtain ⟨u203, hX⟩ := hX
  obtain ⟨u204, hX⟩ := hX
  obtain ⟨u205, hX⟩ := hX
  obtain ⟨u206, hX⟩ := hX
  obtain ⟨u207, hX⟩ := hX
  obtain ⟨u208, hX⟩ := hX
  obtain ⟨u209, hX⟩ := hX
  obtain ⟨u210, hX⟩ := hX
  obtain ⟨u211, hX⟩ := hX
  obtain ⟨u212, hX⟩ := hX
  obtain ⟨u213, hX⟩ := hX
  obtain ⟨u214, hX⟩ := hX
  obtain ⟨u215, hX⟩ := hX
  obtain ⟨u216, hX⟩ := hX
  obtain ⟨u217, hX⟩ := hX
  obtain ⟨u218, hX⟩ := hX
  obtain ⟨u219, hX⟩ := hX
  obtain ⟨u220, hX⟩ := hX
  obtain ⟨u221, hX⟩ := hX
  obtain ⟨u222, hX⟩ := hX
  obtain ⟨u223, hX⟩ := hX
  obtain ⟨u224, hX⟩ := hX
  obtain ⟨u225, hX⟩ := hX
  obtain ⟨u226, hX⟩ := hX
  obtain ⟨u227, hX⟩ := hX
  obtain ⟨u228, hX⟩ := hX
  obtain ⟨u229, hX⟩ := hX
  obtain ⟨u230, hX⟩ := hX
  obtain ⟨u231, hX⟩ := hX
  obtain ⟨u232, hX⟩ := hX
  obtain ⟨u233, hX⟩ := hX
  obtain ⟨u234, hX⟩ := hX
  obtain ⟨u235, hX⟩ := hX
  obtain ⟨u236, hX⟩ := hX
  obtain ⟨u237, hX⟩ := hX
  obtain ⟨u238, hX⟩ := hX
  obtain ⟨u239, hX⟩ := hX
  obtain ⟨u240, hX⟩ := hX
  obtain ⟨u241, hX⟩ := hX
  obtain ⟨u242, hX⟩ := hX
  obtain ⟨u243, hX⟩ := hX
  obtain ⟨u244, hX⟩ := hX
  obtain ⟨hb, rfl⟩ := hX
  have HB := Lib.hid hb
  clear hb
  go_wp2_with fail
  refine (sheetRuns_b HB.out).mono ?_
  rintro e w9 ⟨rfl, hb⟩
  go_wp2
  go_ret
  exact ⟨rfl, hb⟩
end Go.Proofs.Ytideaimlnipkoaa

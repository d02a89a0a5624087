import Derived.Test.YtllbpjaiplnbnaaPur
namespace Go.Proofs.Ytllbpjaiplnbnaa
open Go.RowKit
set_option linter.unusedVariables false
set_option linter.unusedSimpArgs false
section
variable {w0 W : World} {L : List (Nat × Array Value × TypeId)} {g : Nat} {t : TypeId}
theorem put_s (i j n : Int) (k : Nat) (hS : Sts w0 L W) (hk : L[k]? = some (g, #[.int .i64 i, .int .i64 j], t)) (h0 : 0 ≤ i) (h1 : 0 ≤ n) (h2 : i + n ≤ 1152921504606846976) :
    Calls Try.prog 21 #[.pointer (some ⟨g, 0, none⟩), .int .i64 n] W (Goes (.bool true) w0 (L.set k (g, #[.int .i64 (i + n), .int .i64 j], t))) :=
  (put_yes g 0 _ t i n W (hS.at_ k hk) rfl h0 h1 h2).mono fun _ _ ⟨he, hb, hB⟩ => ⟨he, hS.upd k hk hb hB⟩
theorem putno_s (i j n : Int) (k : Nat) (hS : Sts w0 L W) (hk : L[k]? = some (g, #[.int .i64 i, .int .i64 j], t)) (h0 : 0 ≤ i) (h1 : i ≤ 1152921504606846976) (hn : -9223372036854775808 ≤ n) (hn1 : n ≤ 9223372036854775807) (h2 : n < 0 ∨ 1152921504606846976 < i + n) :
    Calls Try.prog 21 #[.pointer (some ⟨g, 0, none⟩), .int .i64 n] W (Goes (.bool false) w0 L) :=
  (put_no g 0 _ t i n W (hS.at_ k hk) rfl h0 h1 hn hn1 h2).mono fun _ _ ⟨he, hb⟩ => ⟨he, hS.below hb⟩
theorem has_s (r i j : Int) (hS : Sts w0 L W) (h0 : 0 ≤ j) (h1 : j ≤ i) (h2 : i ≤ 1152921504606846976) (hr : r = i - j) : Calls Try.prog 18 #[.agg #[.int .i64 i, .int .i64 j]] W (Goes (.int .i64 r) w0 L) :=
  (has_calls i j W h0 h1 h2).mono fun _ _ ⟨he, hb⟩ => ⟨he.trans (by rw [hr]), hS.below hb⟩
theorem in_s (i j : Int) (hS : Sts w0 L W) : Calls Try.prog 26 #[.agg #[.int .i64 i, .int .i64 j]] W (Goes (.int .i64 i) w0 L) :=
  (in_calls i j W).mono fun _ _ ⟨he, hb⟩ => ⟨he, hS.below hb⟩
theorem out_s (i j : Int) (hS : Sts w0 L W) : Calls Try.prog 27 #[.agg #[.int .i64 i, .int .i64 j]] W (Goes (.int .i64 j) w0 L) :=
  (out_calls i j W).mono fun _ _ ⟨he, hb⟩ => ⟨he, hS.below hb⟩
theorem set_same {L : List (Nat × Array Value × TypeId)} {k : Nat} {e : Nat × Array Value × TypeId} (hk : L[k]? = some e) : L.set k e = L := by
  obtain ⟨h, rfl⟩ := List.getElem?_eq_some_iff.1 hk
  simp
end
end Go.Proofs.Ytllbpjaiplnbnaa

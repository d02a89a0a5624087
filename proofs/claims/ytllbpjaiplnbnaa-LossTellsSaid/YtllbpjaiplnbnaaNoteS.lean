import Derived.Test.YtllbpjaiplnbnaaNRight
namespace Go.Proofs.Ytllbpjaiplnbnaa
open Go.RowKit
set_option linter.unusedVariables false
set_option linter.unusedSimpArgs false
section
variable {w0 W : World} {L : List (Nat × Array Value × TypeId)} {g : Nat} {t : TypeId}
theorem pay_s (v r og rt i j sh dn c : Int) (k : Nat) (hS : Sts w0 L W) (hk : L[k]? = some (g, #[.int .i64 (r), .int .i64 (og), .int .i64 (rt), .int .i64 (i), .int .i64 (j), .int .i64 (sh), .int .i64 (dn)], t)) (hF : Fair og i j sh dn) (hc0 : -9223372036854775808 ≤ c) (hc1 : c ≤ 9223372036854775807) (hv : v = wi c (og - (i - j) - dn)) :
    Calls Try.prog 14 #[.pointer (some ⟨g, 0, none⟩), .int .i64 c] W (Goes (.int .i64 v) w0 (L.set k (g, #[.int .i64 (r), .int .i64 (og), .int .i64 (rt), .int .i64 (i + v), .int .i64 (j), .int .i64 (sh), .int .i64 (dn)], t))) :=
  (pay_calls g 0 _ t r og rt i j sh dn c W (hS.at_ k hk) (NoteAt.lit ..) hF hc0 hc1).mono fun _ _ ⟨he, hb, hB⟩ => by
    subst hv
    exact ⟨he, hS.upd k hk hb hB⟩

theorem write_s (v r og rt i j sh dn c : Int) (k : Nat) (hS : Sts w0 L W) (hk : L[k]? = some (g, #[.int .i64 (r), .int .i64 (og), .int .i64 (rt), .int .i64 (i), .int .i64 (j), .int .i64 (sh), .int .i64 (dn)], t)) (hF : Fair og i j sh dn) (hc0 : -9223372036854775808 ≤ c) (hc1 : c ≤ 9223372036854775807) (hv : v = wi c (og - (i - j) - dn)) :
    Calls Try.prog 15 #[.pointer (some ⟨g, 0, none⟩), .int .i64 c] W (Goes (.int .i64 v) w0 (L.set k (g, #[.int .i64 (r), .int .i64 (og), .int .i64 (rt), .int .i64 (i), .int .i64 (j), .int .i64 (sh), .int .i64 (dn + v)], t))) :=
  (write_calls g 0 _ t r og rt i j sh dn c W (hS.at_ k hk) (NoteAt.lit ..) hF hc0 hc1).mono fun _ _ ⟨he, hb, hB⟩ => by
    subst hv
    exact ⟨he, hS.upd k hk hb hB⟩

theorem restore_s (v r og rt i j sh dn c : Int) (k : Nat) (hS : Sts w0 L W) (hk : L[k]? = some (g, #[.int .i64 (r), .int .i64 (og), .int .i64 (rt), .int .i64 (i), .int .i64 (j), .int .i64 (sh), .int .i64 (dn)], t)) (hF : Fair og i j sh dn) (hc0 : -9223372036854775808 ≤ c) (hc1 : c ≤ 9223372036854775807) (hv : v = wi c dn) :
    Calls Try.prog 16 #[.pointer (some ⟨g, 0, none⟩), .int .i64 c] W (Goes (.int .i64 v) w0 (L.set k (g, #[.int .i64 (r), .int .i64 (og), .int .i64 (rt), .int .i64 (i), .int .i64 (j), .int .i64 (sh), .int .i64 (dn - v)], t))) :=
  (restore_calls g 0 _ t r og rt i j sh dn c W (hS.at_ k hk) (NoteAt.lit ..) hF hc0 hc1).mono fun _ _ ⟨he, hb, hB⟩ => by
    subst hv
    exact ⟨he, hS.upd k hk hb hB⟩

theorem settle_s (v r og rt i j sh dn c : Int) (k : Nat) (hS : Sts w0 L W) (hk : L[k]? = some (g, #[.int .i64 (r), .int .i64 (og), .int .i64 (rt), .int .i64 (i), .int .i64 (j), .int .i64 (sh), .int .i64 (dn)], t)) (hF : Fair og i j sh dn) (hc0 : -9223372036854775808 ≤ c) (hc1 : c ≤ 9223372036854775807) (hv : v = wi c sh) :
    Calls Try.prog 25 #[.pointer (some ⟨g, 0, none⟩), .int .i64 c] W (Goes (.int .i64 v) w0 (L.set k (g, #[.int .i64 (r), .int .i64 (og), .int .i64 (rt), .int .i64 (i), .int .i64 (j), .int .i64 (sh - v), .int .i64 (dn)], t))) :=
  (settle_calls g 0 _ t r og rt i j sh dn c W (hS.at_ k hk) (NoteAt.lit ..) hF hc0 hc1).mono fun _ _ ⟨he, hb, hB⟩ => by
    subst hv
    exact ⟨he, hS.upd k hk hb hB⟩

theorem oweyes_s (r og rt i j sh dn c : Int) (k : Nat) (hS : Sts w0 L W) (hk : L[k]? = some (g, #[.int .i64 (r), .int .i64 (og), .int .i64 (rt), .int .i64 (i), .int .i64 (j), .int .i64 (sh), .int .i64 (dn)], t)) (hF : Fair og i j sh dn) (hc0 : 0 ≤ c) (hc1 : sh + c ≤ 1152921504606846976) :
    Calls Try.prog 24 #[.pointer (some ⟨g, 0, none⟩), .int .i64 c] W (Goes (.bool true) w0 (L.set k (g, #[.int .i64 (r), .int .i64 (og), .int .i64 (rt), .int .i64 (i), .int .i64 (j), .int .i64 (sh + c), .int .i64 (dn)], t))) :=
  (oweyes_calls g 0 _ t r og rt i j sh dn c W (hS.at_ k hk) (NoteAt.lit ..) hF (by omega) (by have := hF.sh0; omega) hc0 hc1).mono fun _ _ ⟨he, hb, hB⟩ => ⟨he, hS.upd k hk hb hB⟩
theorem oweno_s (r og rt i j sh dn c : Int) (k : Nat) (hS : Sts w0 L W) (hk : L[k]? = some (g, #[.int .i64 (r), .int .i64 (og), .int .i64 (rt), .int .i64 (i), .int .i64 (j), .int .i64 (sh), .int .i64 (dn)], t)) (hF : Fair og i j sh dn) (hc0 : -9223372036854775808 ≤ c) (hc1 : c ≤ 9223372036854775807) (hc2 : c < 0 ∨ 1152921504606846976 < sh + c) :
    Calls Try.prog 24 #[.pointer (some ⟨g, 0, none⟩), .int .i64 c] W (Goes (.bool false) w0 L) :=
  (oweno_calls g 0 _ t r og rt i j sh dn c W (hS.at_ k hk) (NoteAt.lit ..) hF hc0 hc1 hc2).mono fun _ _ ⟨he, hb⟩ => ⟨he, hS.below hb⟩
theorem putn_s (r og rt i j sh dn c : Int) (k : Nat) (hS : Sts w0 L W) (hk : L[k]? = some (g, #[.int .i64 (r), .int .i64 (og), .int .i64 (rt), .int .i64 (i), .int .i64 (j), .int .i64 (sh), .int .i64 (dn)], t)) (h0 : 0 ≤ i) (h1 : 0 ≤ c) (h2 : i + c ≤ 1152921504606846976) :
    Calls Try.prog 21 #[.pointer (some ⟨g, 3, none⟩), .int .i64 c] W (Goes (.bool true) w0 (L.set k (g, #[.int .i64 (r), .int .i64 (og), .int .i64 (rt), .int .i64 (i + c), .int .i64 (j), .int .i64 (sh), .int .i64 (dn)], t))) :=
  (put_yes g 3 _ t i c W (hS.at_ k hk) rfl h0 h1 h2).mono fun _ _ ⟨he, hb, hB⟩ => ⟨he, hS.upd k hk hb hB⟩
theorem balance_s (v r og rt i j sh dn : Int) (hS : Sts w0 L W) (hF : Fair og i j sh dn) (hv : v = og - (i - j) - dn) : Calls Try.prog 17 #[nv r og rt i j sh dn] W (Goes (.int .i64 v) w0 L) :=
  (balance_calls r og rt i j sh dn W hF).mono fun _ _ ⟨he, hb⟩ => ⟨by rw [hv]; exact he, hS.below hb⟩
theorem nright_s (b : Bool) (r og rt i j sh dn : Int) (hS : Sts w0 L W) (a0 : -2251799813685248 ≤ og) (a1 : og ≤ 2251799813685248) (a2 : 0 ≤ j) (a3 : j ≤ i) (a4 : i ≤ 2251799813685248) (a5 : -9223372036854775808 ≤ sh) (a6 : sh ≤ 9223372036854775807) (a7 : -2251799813685248 ≤ dn) (a8 : dn ≤ 2251799813685248) (hb : rightB r og rt i j sh dn = b) :
    Calls Try.prog 19 #[nv r og rt i j sh dn] W (Goes (.bool b) w0 L) :=
  (nright_calls r og rt i j sh dn W a0 a1 a2 a3 a4 a5 a6 a7 a8).mono fun _ _ ⟨he, h⟩ => ⟨by rw [← hb]; exact he, hS.below h⟩
theorem new_s (r og rt : Int) (hS : Sts w0 L W) : Calls Try.prog 13 #[.agg #[.int .i64 r, .int .i64 og, .int .i64 rt]] W (Goes (nv r og rt 0 0 0 0) w0 L) :=
  (new_calls r og rt W).mono fun _ _ ⟨he, h⟩ => ⟨he, hS.below h⟩
end
theorem Fair.mk_ {og i j sh dn : Int} (h0 : -2251799813685248 ≤ og) (h1 : og ≤ 2251799813685248) (h2 : 0 ≤ j) (h3 : j ≤ i) (h4 : i ≤ 2251799813685248) (h5 : 0 ≤ sh) (h6 : sh ≤ 1152921504606846976) (h7 : -2251799813685248 ≤ dn) (h8 : dn ≤ 2251799813685248) : Fair og i j sh dn := ⟨h0, h1, h2, h3, h4, h5, h6, h7, h8⟩
end Go.Proofs.Ytllbpjaiplnbnaa

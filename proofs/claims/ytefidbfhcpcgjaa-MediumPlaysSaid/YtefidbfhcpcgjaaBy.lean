import Derived.Test.YtefidbfhcpcgjaaProg
import Derived.Test.YtefidbfhcpcgjaaOwn
import Derived.Test.YtefidbfhcpcgjaaFramePure
namespace Go.Proofs.Ytefidbfhcpcgjaa
open Go.RowKit
set_option linter.unusedVariables false
set_option linter.unusedSimpArgs false

theorem Row.empty (g : Nat) (e : TypeId) (size : Nat) : Row [(g, #[], e)] e size (some ⟨g, 0, none⟩) 0 0 [] := ⟨by simp, Nat.le_refl _, by unfold maxLen; omega, .inr ⟨g, #[], rfl, rfl, by simp, by simp⟩⟩
/-! ### Lists of bytes -/
def bs (l : List Int) : List Value := l.map (Value.int .u8)
theorem bs_length (l : List Int) : (bs l).length = l.length := by simp [bs]
theorem bs_app (a b : List Int) : bs (a ++ b) = bs a ++ bs b := by simp [bs]
theorem bs_take (l : List Int) (n : Nat) : (bs l).take n = bs (l.take n) := by simp [bs]
theorem bs_drop (l : List Int) (n : Nat) : (bs l).drop n = bs (l.drop n) := by simp [bs]
theorem bs_one (l : List Int) : ∀ u ∈ bs l, u.oneCell' = true := by
  intro u hu
  obtain ⟨x, _, rfl⟩ := List.mem_map.1 hu
  rfl
section
variable {W W' : World} {A : Option Addr} {n : Nat} {l : List Int}
theorem Src.len (h : Src W A n 1 (bs l)) : l.length = n := by have := h.1; rw [bs_length] at this; omega
theorem Src.byte (h : Src W A n 1 (bs l)) {k : Nat} (hk : k < n) : ∃ ad, A = some ad ∧ W.cell? (ad.add k) = some (.int .u8 (l.getD k 0)) := by
  have hl := h.len
  obtain ⟨ad, e, hc⟩ := h.2 (by omega)
  refine ⟨ad, e, hc k _ ?_⟩
  rw [bs, List.getElem?_map, List.getD_eq_getElem?_getD, List.getElem?_eq_getElem (by omega)]
  rfl
theorem Byt.at_ (h : Byt l) {k : Nat} (hk : k < l.length) : 0 ≤ l.getD k 0 ∧ l.getD k 0 ≤ 255 := h _ (by rw [List.getD_eq_getElem?_getD, List.getElem?_eq_getElem hk]; simp)
theorem sum_take (l : List Int) (k : Nat) (h : k < l.length) : (l.take (k + 1)).sum = (l.take k).sum + l.getD k 0 := by
  rw [List.take_succ_eq_append_getElem h, List.sum_append, List.getD_eq_getElem?_getD, List.getElem?_eq_getElem h]; simp
theorem Src.cutHi (h : Src W A n 1 (bs l)) {k : Nat} (hk : k ≤ n) : Src W A k 1 (bs (l.take k)) := by
  have hl := h.len
  refine ⟨by simp [bs]; omega, fun h0 => ?_⟩
  obtain ⟨ad, e, hc⟩ := h.2 (by omega)
  refine ⟨ad, e, fun j u hu => hc j u ?_⟩
  rw [← bs_take, List.getElem?_take] at hu
  split at hu
  · exact hu
  · cases hu
theorem Src.cutLo (h : Src W A n 1 (bs l)) {k cap : Nat} (hk : k ≤ n) (hc : n ≤ cap) : Src W (if cap = k then A else A.map (·.add (k * 1))) (n - k) 1 (bs (l.drop k)) := by
  have hl := h.len
  refine ⟨by simp [bs]; omega, fun h0 => ?_⟩
  obtain ⟨ad, rfl, hcell⟩ := h.2 (by omega)
  rw [if_neg (by omega)]
  refine ⟨_, rfl, fun j u hu => ?_⟩
  rw [add_of_add]
  refine hcell _ u ?_
  rw [← hu, ← bs_drop, List.getElem?_drop, Nat.mul_one]
end
/-- Bytes that came in. -/
structure BytesIn (W : World) (A : Option Addr) (n c : Nat) (l : List Int) : Prop where
  src : Src W A n 1 (bs l)
  byt : Byt l
  le : n ≤ c
  cap : c ≤ 9223372036854775807
theorem BytesIn.nil (W : World) : BytesIn W none 0 0 [] := ⟨Src.nil W 1, Byt.nil, by omega, by omega⟩
theorem BytesIn.mk_ {W : World} (a : Addr) {len cap : Nat} {zs : List Int} (hl : len ≤ cap) (hz : zs.length = cap) (hm : cap ≤ 9223372036854775807) (hc : ∀ i, i < zs.length → W.cell? (a.add i) = some (.int .u8 (zs.getD i 0))) (hw : ∀ n ∈ zs, (Lit.int .u8 n).wf = true) : BytesIn W (some a) len cap (zs.take len) := by
  refine ⟨⟨by simp [bs]; omega, fun h => ⟨a, rfl, fun j u hu => ?_⟩⟩, fun x hx => wf_u8 (hw x (List.mem_of_mem_take hx)), hl, hm⟩
  obtain ⟨hj, he⟩ := List.getElem?_eq_some_iff.1 hu
  have hj' : j < len ∧ j < zs.length := by simp [bs] at hj; omega
  rw [hc j hj'.2, ← he]
  simp [bs, List.getD_eq_getElem?_getD, hj'.2]
/-- What the call hands back: a slice of its own, that holds cs. -/
def Made (cs : List Value) (n e size : Nat) (W : World) (E : Ending) (W' : World) : Prop := ∃ R a cap, E = .returned (.slice a n cap) ∧ Row R e size a n cap cs ∧ Sts W R W'
section
variable {w0 W W' W'' : World} {A B R : List Ent} {e : TypeId} {size n cap : Nat} {a : Option Addr} {xs : List Value} {L : List Ent}
theorem Row.srcIn (h : Row R e size a n cap xs) (hS : Sts w0 L W) (hm : ∀ x ∈ R, x ∈ L) : Src W a n size xs := by
  have h1 : Sts w0 ([] ++ (R ++ [])) W := by
    rw [sts_iff] at hS ⊢
    refine ⟨fun x hx => hS.1 x (hm x (by simpa using hx)), ?_, hS.2.2⟩
    obtain ⟨_, _, _, h4⟩ := h
    rcases h4 with ⟨rfl, _⟩ | ⟨g, cur, _, rfl, _⟩ <;> simp
  exact h.src [] [] h1
theorem Row.src0 (h : Row R e size a n cap xs) (hS : Sts w0 R W) : Src W a n size xs := h.srcIn hS fun _ hx => hx
/-- Seen from an elder world. -/
theorem Sts.rebase (hb : Below w0.heap.size w0 W) (h : Sts W R W') : Sts w0 R W' := by
  rw [sts_iff] at h ⊢
  exact ⟨fun x hx => ⟨(h.1 x hx).1, Nat.le_trans hb.size (h.1 x hx).2⟩, h.2.1, bel_then hb h.2.2 hb.size⟩
theorem Made.rebase {E : Ending} (hb : Below w0.heap.size w0 W) (h : Made xs n e size W E W') : Made xs n e size w0 E W' := by
  obtain ⟨R, a, cap, h1, h2, h3⟩ := h
  exact ⟨R, a, cap, h1, h2, h3.rebase hb⟩
theorem Sts.bel0 (h : Sts w0 L W) : Below w0.heap.size w0 W := h.bel
end
end Go.Proofs.Ytefidbfhcpcgjaa

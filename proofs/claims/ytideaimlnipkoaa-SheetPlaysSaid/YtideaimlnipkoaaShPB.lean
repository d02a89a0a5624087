import Derived.Test.YtideaimlnipkoaaShAsks
import Derived.Test.YtideaimlnipkoaaShEven
namespace Go.Proofs.Ytideaimlnipkoaa
open Go.RowKit
set_option linter.unusedVariables false
set_option linter.unusedSimpArgs false
def firstLoop : Code → Option Code
  | .loop c => some c
  | .seq a b => match firstLoop a with
    | some c => some c
    | none => firstLoop b
  | .block _ c => firstLoop c
  | .scope c => firstLoop c
  | .cond _ a b => match firstLoop a with
    | some c => some c
    | none => firstLoop b
  | _ => none
/-- The 'if' on a slot, the block of a number: pieces of a round as codes of their own. -/
def ifAt (n : Nat) : Code → Option Code
  | .cond (.tmp k) a b => if k = n then some (.cond (.tmp k) a b) else (match ifAt n a with
    | some c => some c
    | none => ifAt n b)
  | .cond _ a b => match ifAt n a with
    | some c => some c
    | none => ifAt n b
  | .seq a b => match ifAt n a with
    | some c => some c
    | none => ifAt n b
  | .block _ c => ifAt n c
  | .scope c => ifAt n c
  | .loop c => ifAt n c
  | _ => none
def blockAt (n : Nat) : Code → Option Code
  | .block k c => if k = n then some (.block k c) else blockAt n c
  | .cond _ a b => match blockAt n a with
    | some c => some c
    | none => blockAt n b
  | .seq a b => match blockAt n a with
    | some c => some c
    | none => blockAt n b
  | .scope c => blockAt n c
  | .loop c => blockAt n c
  | _ => none
noncomputable def playBody : Code := ((Try.f7.body.bind firstLoop).getD .skip)
def qcells (q : SAsk) : Array Value := #[.slice q.a q.n q.cap, .int .i64 q.f, .int .i64 q.t, .int .i64 q.x, .bool q.mv, .bool q.bl]
/-- What holds at the head of each round. -/
structure Play (w : World) (g : Nat) (bal : List Int) (cnt n0 : Nat) (Rw : List Ent) (aw : Option Addr) (cw i : Nat) (W : World) : Prop where
  at_ : ShAt w Rw g bal cnt W
  row : Row Rw 3 1 aw n0 cw (is bal)
  len : bal.length = n0
  bd : Within bal 1152921504606846976
  cnt : cnt ≤ i
  n0 : n0 ≤ 64
theorem Src.cutE {W : World} {A : Option Addr} {n : Nat} {l : List (Int × Int)} (h : Src W A n 2 (ecs l)) {k : Nat} (hk : k ≤ n) : Src W A k 2 (ecs (l.take k)) := by
  have hl : l.length = n := by have := h.1; rw [ecs_length] at this; omega
  refine ⟨by rw [ecs_length, List.length_take]; omega, fun hn => ?_⟩
  obtain ⟨ad, e, hc⟩ := h.2 (by omega)
  refine ⟨ad, e, fun j u hu => hc j u ?_⟩
  have h2 : ecs (l.take k) = (ecs l).take (k * 2) := (flat_take ec 2 ec_length l k).symm
  rw [h2, List.getElem?_take] at hu
  split at hu
  · exact hu
  · cases hu
theorem ShAt.cellL {w0 W : World} {L : List Ent} {g cnt : Nat} {bal : List Int} (h : ShAt w0 L g bal cnt W) {g' : Nat} {cs : Array Value} {t : TypeId} (hm : (g', cs, t) ∈ L) (i : Nat) {v : Value} (hv : cs[i]? = some v) : W.cell? ⟨g', i, none⟩ = some v ∧ W.frozen? ⟨g', i, none⟩ = false := by
  obtain ⟨R, a, cap, hR, hS⟩ := h
  have hmem : (g', cs, t) ∈ (g, scells a bal.length cap cnt, 49) :: (R ++ L) := List.mem_cons_of_mem _ (List.mem_append_right _ hm)
  exact ⟨hS.cellM hmem i hv, hS.frozenM hmem i⟩
theorem ShAt.setL {w0 W : World} {L : List Ent} {g cnt : Nat} {bal : List Int} {g' : Nat} {cs : Array Value} {t : TypeId} (h : ShAt w0 ((g', cs, t) :: L) g bal cnt W) (i : Nat) (v : Value) : ShAt w0 ((g', cs.setIfInBounds i v, t) :: L) g bal cnt (W.setCell ⟨g', i, none⟩ v) := by
  obtain ⟨R, a, cap, hR, hS⟩ := h
  refine ⟨R, a, cap, hR, ?_⟩
  have h2 := hS.perm (L' := (g', cs, t) :: ((g, scells a bal.length cap cnt, 49) :: (R ++ L))) (by
    have := List.perm_middle (l₁ := (g, scells a bal.length cap cnt, 49) :: R) (a := (g', cs, t)) (l₂ := L)
    simpa using this)
  refine Sts.perm (h2.set 0 i v rfl) ?_
  have := (List.perm_middle (l₁ := (g, scells a bal.length cap cnt, 49) :: R) (a := (g', cs.setIfInBounds i v, t)) (l₂ := L)).symm
  simpa using this
theorem ecs_set1 (es : List (Int × Int)) (k : Nat) (v : Int) (hk : k < es.length) : (ecs es).set (k * 2 + 1) (.int .i64 v) = ecs (es.set k ((es.getD k (0, 0)).1, v)) := by
  unfold ecs
  induction es generalizing k with
  | nil => simp at hk
  | cons x es ih =>
    cases k with
    | zero => rfl
    | succ k =>
      have h := ih k (by simpa using hk)
      rw [List.set_cons_succ, List.flatMap_cons, List.flatMap_cons, List.getD_cons_succ, ← h, Nat.add_mul]
      rfl
theorem ecs_get1 (es : List (Int × Int)) {k : Nat} (hk : k < es.length) : (ecs es)[k * 2 + 1]? = some (.int .i64 (es.getD k (0, 0)).2) := by
  have := (ecs_at es hk).2
  rw [List.getElem?_toArray] at this
  exact this
theorem bd_set {es : List (Int × Int)} (h : ∀ e ∈ es, Bd e.1 ∧ Bd e.2) {k : Nat} (hk : k < es.length) {v : Int} (hv : Bd v) : ∀ e ∈ es.set k ((es.getD k (0, 0)).1, v), Bd e.1 ∧ Bd e.2 := by
  intro e he
  rcases List.mem_or_eq_of_mem_set he with he | rfl
  · exact h e he
  · exact ⟨(h _ (getD_mem hk)).1, hv⟩
theorem mayF_out {bal : List Int} {es : List (Int × Int)} {e : Int × Int} {k : Nat} (h : es[k]? = some e) (hb : thereOk bal.length e = false) : mayF bal es = false := by
  unfold mayF
  have : es.all (thereOk bal.length) = false := by
    rw [Bool.eq_false_iff]; intro ha
    have := List.all_eq_true.1 ha e (List.mem_of_getElem? h)
    rw [hb] at this; cases this
  rw [this]; simp
theorem mayF_nil (bal : List Int) : mayF bal [] = false := by simp [mayF]
theorem mayF_in {bal : List Int} {es : List (Int × Int)} (h1 : es ≠ []) (h2 : es.all (thereOk bal.length) = true) : mayF bal es = (decide ((amts es).sum = 0) && (postL bal es).all inB) := by
  unfold mayF; rw [h2]; simp [h1]
theorem wp_only {P : Program} {c : Code} {K : Act → World → Prop} {Q : Exit → Act → World → Prop} {a : Act} {w : World} (h : Code.wp P c (Exit.then K (fun _ _ _ => False)) a w) : Code.wp P c (Exit.then K Q) a w :=
  Code.wp_mono (fun e a w => by cases e <;> intro h <;> first | exact h | exact h.elim) h
theorem may_is {bal nx : List Int} {es : List (Int × Int)} {s : Int} {mb : Bool} (h1 : mb = true → es ≠ [] ∧ es.all (thereOk bal.length) = true ∧ (amts es).sum = s ∧ nx = postL bal es) (h0 : mb = false → mayF bal es = false) (b : Bool) :
    ((mb && decide (s = 0) && b) && nx.all inB) = (mayF bal es && b) := by
  cases mb with
  | false => rw [h0 rfl]; simp
  | true =>
    obtain ⟨h2, h3, h4, h5⟩ := h1 rfl
    rw [mayF_in h2 h3, h4, h5]
    cases b <;> simp
theorem may_nx {bal nx : List Int} {es : List (Int × Int)} {s : Int} {mb : Bool} (h1 : mb = true → es ≠ [] ∧ es.all (thereOk bal.length) = true ∧ (amts es).sum = s ∧ nx = postL bal es) (b : Bool)
    (h : ((mb && decide (s = 0) && b) && nx.all inB) = true) : nx = postL bal es ∧ Within nx 1152921504606846976 := by
  cases mb with
  | false => simp at h
  | true =>
    refine ⟨(h1 rfl).2.2.2, fun x hx => ?_⟩
    simp only [Bool.and_eq_true] at h
    exact inB_iff.1 (List.all_eq_true.1 h.2 x hx)
set_option maxRecDepth 1000000 in
def PlayI (w : World) (K0 : Int) (A1 : Option Addr) (n1 c1 g n0 : Nat) (c2_ c3_ c22_ c23_ c24_ c25_ c26_ c27_ c28_ c29_ c30_ c245_ : Value) (x : Act) (wr : World) : Prop :=
  ∃ u4 u10 u11 u12 u13 u14 u15 u16 u17 u18 u19 u20 u21 u31 u32 u33 u34 u35 u36 u37 u38 u39 u40 u41 u42 u43 u44 u45 u46 u47 u48 u49 u50 u51 u52 u53 u54 u55 u56 u57 u58 u59 u60 u61 u62 u63 u64 u65 u66 u67 u68 u69 u70 u71 u72 u73 u74 u75 u76 u77 u78 u79 u80 u81 u82 u83 u84 u85 u86 u87 u88 u89 u90 u91 u92 u93 u94 u95 u96 u97 u98 u99 u100 u101 u102 u103 u104 u105 u106 u107 u108 u109 u110 u111 u112 u113 u114 u115 u116 u117 u118 u119 u120 u121 u122 u123 u124 u125 u126 u127 u128 u129 u130 u131 u132 u133 u134 u135 u136 u137 u138 u139 u140 u141 u142 u143 u144 u145 u146 u147 u148 u149 u150 u151 u152 u153 u154 u155 u156 u157 u158 u159 u160 u161 u162 u163 u164 u165 u166 u167 u168 u169 u170 u171 u172 u173 u174 u175 u176 u177 u178 u179 u180 u181 u182 u183 u184 u185 u186 u187 u188 u189 u190 u191 u192 u193 u194 u195 u196 u197 u198 u199 u200 u201 u202 u203 u204 u205 u206 u207 u208 u209 u210 u211 u212 u213 u214 u215 u216 u217 u218 u219 u220 u221 u222 u223 u224 u225 u226 u227 u228 u229 u230 u231 u232 u233 u234 u235 u236 u237 u238 u239 u240 u241 u242 u243 u244 : Value, ∃ (cnt cw : Nat) (z : Int) (aw : Option Addr), (∃ (i : Nat) (bal : List Int) (Rw : List Ent), z = i ∧ i ≤ 20 ∧ Hid (Play w g bal cnt n0 Rw aw cw i wr)) ∧ x = ⟨#[.int .i64 K0, .slice A1 n1 c1, c2_, c3_, u4, .pointer (some ⟨g, 0, none⟩), .int .i64 n0, .slice aw n0 cw, .int .i64 cnt, .int .i64 z, u10, u11, u12, u13, u14, u15, u16, u17, u18, u19, u20, u21, c22_, c23_, c24_, c25_, c26_, c27_, c28_, c29_, c30_, u31, u32, u33, u34, u35, u36, u37, u38, u39, u40, u41, u42, u43, u44, u45, u46, u47, u48, u49, u50, u51, u52, u53, u54, u55, u56, u57, u58, u59, u60, u61, u62, u63, u64, u65, u66, u67, u68, u69, u70, u71, u72, u73, u74, u75, u76, u77, u78, u79, u80, u81, u82, u83, u84, u85, u86, u87, u88, u89, u90, u91, u92, u93, u94, u95, u96, u97, u98, u99, u100, u101, u102, u103, u104, u105, u106, u107, u108, u109, u110, u111, u112, u113, u114, u115, u116, u117, u118, u119, u120, u121, u122, u123, u124, u125, u126, u127, u128, u129, u130, u131, u132, u133, u134, u135, u136, u137, u138, u139, u140, u141, u142, u143, u144, u145, u146, u147, u148, u149, u150, u151, u152, u153, u154, u155, u156, u157, u158, u159, u160, u161, u162, u163, u164, u165, u166, u167, u168, u169, u170, u171, u172, u173, u174, u175, u176, u177, u178, u179, u180, u181, u182, u183, u184, u185, u186, u187, u188, u189, u190, u191, u192, u193, u194, u195, u196, u197, u198, u199, u200, u201, u202, u203, u204, u205, u206, u207, u208, u209, u210, u211, u212, u213, u214, u215, u216, u217, u218, u219, u220, u221, u222, u223, u224, u225, u226, u227, u228, u229, u230, u231, u232, u233, u234, u235, u236, u237, u238, u239, u240, u241, u242, u243, u244, c245_], []⟩
def playMu (x : Act) (_ : World) : Nat := 20 - (intOf (x.tmps.getD 9 (.bool false))).toNat
end Go.Proofs.Ytideaimlnipkoaa

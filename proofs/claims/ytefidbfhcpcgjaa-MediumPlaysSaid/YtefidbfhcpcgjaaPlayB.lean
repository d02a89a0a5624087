import Derived.Test.YtefidbfhcpcgjaaAsks
import Derived.Test.YtefidbfhcpcgjaaPlayM
import Derived.Test.YtefidbfhcpcgjaaDuo
namespace Go.Proofs.Ytefidbfhcpcgjaa
open Go.RowKit
set_option linter.unusedVariables false
set_option linter.unusedSimpArgs false
def firstLoop : Code → Option Code
  | .loop c => some c
  | .seq a b => match firstLoop a with
    | some c => some c
    | none => firstLoop b
  | .block _ c => firstLoop c
  | .scope c => firstLoop c
  | .cond _ a b => match firstLoop a with
    | some c => some c
    | none => firstLoop b
  | _ => none
noncomputable def playBody : Code := ((Try.f8.body.bind firstLoop).getD .skip)
def qcells (k n : Int) (pa : Option Addr) (pn pc : Nat) : Array Value := #[.int .i64 k, .int .i64 n, .slice pa pn pc]
/-- What holds at the head of each round. -/
structure Play (w : World) (g : Nat) (s : Med) (Ra : List Ent) (a : Option Addr) (c L i : Nat) (W : World) : Prop where
  med : MedAt w [] Ra g s W
  row : Row Ra 5 1 a L c (bs s.b)
  ok : s.Ok
  len : s.b.length = L
  most : L ≤ 9 * i
theorem Row.apartB {w0 W : World} {A B : List Ent} {g : Nat} {s : Med} {R : List Ent} {e size n cap : Nat} {a : Option Addr} {xs : List Value} (hR : Row R e size a n cap xs) (h : MedAt w0 A B g s W) (hm : ∀ x ∈ R, x ∈ B) : Apart a n g := by
  intro ad ea hn
  obtain ⟨R', a', cap', _, hS⟩ := h
  obtain ⟨_, h2, _, h4⟩ := hR
  rcases h4 with ⟨_, h5⟩ | ⟨g', cs, h6, rfl, _⟩
  · omega
  · obtain rfl := Option.some.inj (h6.symm.trans ea)
    exact Sts.mem_ne (A := A) (R := [(g, s.cells a' cap', 66)]) (B := R' ++ B) (hS.lit (by simp)) (x := (g', cs, e)) (by simp [hm]) (y := (g, s.cells a' cap', 66)) (by simp)
set_option maxRecDepth 1000000 in
def PlayI (w : World) (A1 : Option Addr) (n1 c1 : Nat) (c1_ c17_ c18_ c19_ c245_ : Value) (x : Act) (wr : World) : Prop :=
  ∃ u2 u9 u10 u11 u12 u13 u14 u15 u16 u20 u21 u22 u23 u24 u25 u26 u27 u28 u29 u30 u31 u32 u33 u34 u35 u36 u37 u38 u39 u40 u41 u42 u43 u44 u45 u46 u47 u48 u49 u50 u51 u52 u53 u54 u55 u56 u57 u58 u59 u60 u61 u62 u63 u64 u65 u66 u67 u68 u69 u70 u71 u72 u73 u74 u75 u76 u77 u78 u79 u80 u81 u82 u83 u84 u85 u86 u87 u88 u89 u90 u91 u92 u93 u94 u95 u96 u97 u98 u99 u100 u101 u102 u103 u104 u105 u106 u107 u108 u109 u110 u111 u112 u113 u114 u115 u116 u117 u118 u119 u120 u121 u122 u123 u124 u125 u126 u127 u128 u129 u130 u131 u132 u133 u134 u135 u136 u137 u138 u139 u140 u141 u142 u143 u144 u145 u146 u147 u148 u149 u150 u151 u152 u153 u154 u155 u156 u157 u158 u159 u160 u161 u162 u163 u164 u165 u166 u167 u168 u169 u170 u171 u172 u173 u174 u175 u176 u177 u178 u179 u180 u181 u182 u183 u184 u185 u186 u187 u188 u189 u190 u191 u192 u193 u194 u195 u196 u197 u198 u199 u200 u201 u202 u203 u204 u205 u206 u207 u208 u209 u210 u211 u212 u213 u214 u215 u216 u217 u218 u219 u220 u221 u222 u223 u224 u225 u226 u227 u228 u229 u230 u231 u232 u233 u234 u235 u236 u237 u238 u239 u240 u241 u242 u243 u244 : Value, ∃ (g L c fi : Nat) (fu z : Int) (so : Bool) (a : Option Addr), (∃ (i : Nat) (s : Med) (Ra : List Ent), z = i ∧ i ≤ 40 ∧ s.firm = fi ∧ fuL s = fu ∧ s.off = so ∧ Hid (Play w g s Ra a c L i wr)) ∧ x = ⟨#[.slice A1 n1 c1, c1_, u2, .pointer (some ⟨g, 0, none⟩), .slice a L c, .int .i64 fi, .int .i64 fu, .bool so, .int .i64 z, u9, u10, u11, u12, u13, u14, u15, u16, c17_, c18_, c19_, u20, u21, u22, u23, u24, u25, u26, u27, u28, u29, u30, u31, u32, u33, u34, u35, u36, u37, u38, u39, u40, u41, u42, u43, u44, u45, u46, u47, u48, u49, u50, u51, u52, u53, u54, u55, u56, u57, u58, u59, u60, u61, u62, u63, u64, u65, u66, u67, u68, u69, u70, u71, u72, u73, u74, u75, u76, u77, u78, u79, u80, u81, u82, u83, u84, u85, u86, u87, u88, u89, u90, u91, u92, u93, u94, u95, u96, u97, u98, u99, u100, u101, u102, u103, u104, u105, u106, u107, u108, u109, u110, u111, u112, u113, u114, u115, u116, u117, u118, u119, u120, u121, u122, u123, u124, u125, u126, u127, u128, u129, u130, u131, u132, u133, u134, u135, u136, u137, u138, u139, u140, u141, u142, u143, u144, u145, u146, u147, u148, u149, u150, u151, u152, u153, u154, u155, u156, u157, u158, u159, u160, u161, u162, u163, u164, u165, u166, u167, u168, u169, u170, u171, u172, u173, u174, u175, u176, u177, u178, u179, u180, u181, u182, u183, u184, u185, u186, u187, u188, u189, u190, u191, u192, u193, u194, u195, u196, u197, u198, u199, u200, u201, u202, u203, u204, u205, u206, u207, u208, u209, u210, u211, u212, u213, u214, u215, u216, u217, u218, u219, u220, u221, u222, u223, u224, u225, u226, u227, u228, u229, u230, u231, u232, u233, u234, u235, u236, u237, u238, u239, u240, u241, u242, u243, u244, c245_], []⟩
def playMu (x : Act) (_ : World) : Nat := 40 - (intOf (x.tmps.getD 8 (.bool false))).toNat
end Go.Proofs.Ytefidbfhcpcgjaa

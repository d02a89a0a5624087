import Derived.Test.YtefidbfhcpcgjaaPlayB
namespace Go.Proofs.Ytefidbfhcpcgjaa
open Go.RowKit
set_option linter.unusedVariables false
set_option linter.unusedSimpArgs false
set_option maxHeartbeats 16000000 in
set_option maxRecDepth 1000000 in
theorem play_cutOff (w : World) (A1 : Option Addr) (n1 c1 : Nat) (f : Nat → Ask) (c1_ c17_ c18_ c19_ c245_ : Value) (u2 u9 u10 u11 u12 u13 u14 u15 u16 u20 u21 u22 u23 u24 u25 u26 u27 u28 u29 u30 u31 u32 u33 u34 u35 u36 u37 u38 u39 u40 u41 u42 u43 u44 u45 u46 u47 u48 u49 u50 u51 u52 u53 u54 u55 u56 u57 u58 u59 u60 u61 u62 u63 u64 u65 u66 u67 u68 u69 u70 u71 u72 u73 u74 u75 u76 u77 u78 u79 u80 u81 u82 u83 u84 u85 u86 u87 u88 u89 u90 u91 u92 u93 u94 u95 u96 u97 u98 u99 u100 u101 u102 u103 u104 u105 u106 u107 u108 u109 u110 u111 u112 u113 u114 u115 u116 u117 u118 u119 u120 u121 u122 u123 u124 u125 u126 u127 u128 u129 u130 u131 u132 u133 u134 u135 u136 u137 u138 u139 u140 u141 u142 u143 u144 u145 u146 u147 u148 u149 u150 u151 u152 u153 u154 u155 u156 u157 u158 u159 u160 u161 u162 u163 u164 u165 u166 u167 u168 u169 u170 u171 u172 u173 u174 u175 u176 u177 u178 u179 u180 u181 u182 u183 u184 u185 u186 u187 u188 u189 u190 u191 u192 u193 u194 u195 u196 u197 u198 u199 u200 u201 u202 u203 u204 u205 u206 u207 u208 u209 u210 u211 u212 u213 u214 u215 u216 u217 u218 u219 u220 u221 u222 u223 u224 u225 u226 u227 u228 u229 u230 u231 u232 u233 u234 u235 u236 u237 u238 u239 u240 u241 u242 u243 u244 : Value) (i g L c fi : Nat) (fu : Int) (so : Bool) (s : Med) (Ra : List Ent) (a : Option Addr) (Q0 : Exit → Act → World → Prop) (wr : World)
    (hmost : n1 ≤ 9223372036854775807) (q2 : i < n1) (q3 : i < 40) (H1 : Hid (AsksIn w A1 n1 f)) (P1 : Hid (Play w g s Ra a c L i wr)) (HFI : Hid (s.firm = fi)) (HFU : Hid (fuL s = fu)) (HSO : Hid (s.off = so)) (fb0 : -1 ≤ fu) (fb1 : fu ≤ 9223372036854775807) (hk0 : 3 ≤ (f i).k) (hk1 : (f i).k ≤ 3) (hso : so = true) (hn0 : 0 ≤ (f i).n) (hn1 : (f i).n ≤ L) :
    Code.wp Try.prog playBody (Exit.then (fun a' w'' => PlayI w A1 n1 c1 c1_ c17_ c18_ c19_ c245_ a' w'' ∧ playMu a' w'' < playMu ⟨#[.slice A1 n1 c1, c1_, u2, .pointer (some ⟨g, 0, none⟩), .slice a L c, .int .i64 fi, .int .i64 fu, .bool so, .int .i64 i, u9, u10, u11, u12, u13, u14, u15, u16, c17_, c18_, c19_, u20, u21, u22, u23, u24, u25, u26, u27, u28, u29, u30, u31, u32, u33, u34, u35, u36, u37, u38, u39, u40, u41, u42, u43, u44, u45, u46, u47, u48, u49, u50, u51, u52, u53, u54, u55, u56, u57, u58, u59, u60, u61, u62, u63, u64, u65, u66, u67, u68, u69, u70, u71, u72, u73, u74, u75, u76, u77, u78, u79, u80, u81, u82, u83, u84, u85, u86, u87, u88, u89, u90, u91, u92, u93, u94, u95, u96, u97, u98, u99, u100, u101, u102, u103, u104, u105, u106, u107, u108, u109, u110, u111, u112, u113, u114, u115, u116, u117, u118, u119, u120, u121, u122, u123, u124, u125, u126, u127, u128, u129, u130, u131, u132, u133, u134, u135, u136, u137, u138, u139, u140, u141, u142, u143, u144, u145, u146, u147, u148, u149, u150, u151, u152, u153, u154, u155, u156, u157, u158, u159, u160, u161, u162, u163, u164, u165, u166, u167, u168, u169, u170, u171, u172, u173, u174, u175, u176, u177, u178, u179, u180, u181, u182, u183, u184, u185, u186, u187, u188, u189, u190, u191, u192, u193, u194, u195, u196, u197, u198, u199, u200, u201, u202, u203, u204, u205, u206, u207, u208, u209, u210, u211, u212, u213, u214, u215, u216, u217, u218, u219, u220, u221, u222, u223, u224, u225, u226, u227, u228, u229, u230, u231, u232, u233, u234, u235, u236, u237, u238, u239, u240, u241, u242, u243, u244, c245_], []⟩ wr) Q0) ⟨#[.slice A1 n1 c1, c1_, u2, .pointer (some ⟨g, 0, none⟩), .slice a L c, .int .i64 fi, .int .i64 fu, .bool so, .int .i64 i, u9, u10, u11, u12, u13, u14, u15, u16, c17_, c18_, c19_, u20, u21, u22, u23, u24, u25, u26, u27, u28, u29, u30, u31, u32, u33, u34, u35, u36, u37, u38, u39, u40, u41, u42, u43, u44, u45, u46, u47, u48, u49, u50, u51, u52, u53, u54, u55, u56, u57, u58, u59, u60, u61, u62, u63, u64, u65, u66, u67, u68, u69, u70, u71, u72, u73, u74, u75, u76, u77, u78, u79, u80, u81, u82, u83, u84, u85, u86, u87, u88, u89, u90, u91, u92, u93, u94, u95, u96, u97, u98, u99, u100, u101, u102, u103, u104, u105, u106, u107, u108, u109, u110, u111, u112, u113, u114, u115, u116, u117, u118, u119, u120, u121, u122, u123, u124, u125, u126, u127, u128, u129, u130, u131, u132, u133, u134, u135, u136, u137, u138, u139, u140, u141, u142, u143, u144, u145, u146, u147, u148, u149, u150, u151, u152, u153, u154, u155, u156, u157, u158, u159, u160, u161, u162, u163, u164, u165, u166, u167, u168, u169, u170, u171, u172, u173, u174, u175, u176, u177, u178, u179, u180, u181, u182, u183, u184, u185, u186, u187, u188, u189, u190, u191, u192, u193, u194, u195, u196, u197, u198, u199, u200, u201, u202, u203, u204, u205, u206, u207, u208, u209, u210, u211, u212, u213, u214, u215, u216, u217, u218, u219, u220, u221, u222, u223, u224, u225, u226, u227, u228, u229, u230, u231, u232, u233, u234, u235, u236, u237, u238, u239, u240, u241, u242, u243, u244, c245_], []⟩ wr := by
  conv => arg 2; whnf
  subst hso
  obtain ⟨ad, hA, hq⟩ := H1.out.at_ i q2
  have hcell := P1.out.med.bel.cell (World.block_lt_of_cell? w _ hq.c0) |>.trans hq.c0
  have hcell1 := P1.out.med.bel.cell (World.block_lt_of_cell? w _ hq.at1) |>.trans hq.at1
  have hcell2 := P1.out.med.bel.cell (World.block_lt_of_cell? w _ hq.at2) |>.trans hq.at2
  obtain ⟨⟨k, N, pa, pn, pc, pl⟩, hfq⟩ : ∃ q, f i = q := ⟨_, rfl⟩
  rw [hfq] at hcell hcell1 hcell2 hq hk0 hk1 hn0 hn1
  replace hk0 : 3 ≤ k := hk0
  replace hk1 : k ≤ 3 := hk1
  replace hn0 : 0 ≤ N := hn0
  replace hn1 : N ≤ L := hn1
  obtain ⟨_, _, _, hbi, k0, k1, nn0, nn1⟩ := hq
  simp only at hcell hcell1 hcell2 hbi k0 k1 nn0 nn1
  have HQ := Lib.hid hbi
  have hpc := hbi.le
  have hpcap := hbi.cap
  clear hbi hfq
  obtain rfl := hA
  go_upto_region 10 with fail
  have hqc : (#[.int .i64 k, .int .i64 N, .slice pa pn pc] : Array Value) = qcells k N pa pn pc := rfl
  rw [hqc]
  have hm2 : MedAt w [] (Ra ++ [(wr.heap.size, qcells k N pa pn pc, 43)]) g s (wr.alloc (.cells (qcells k N pa pn pc) 43)) := P1.out.med.addB (gn := wr.heap.size) rfl (qcells k N pa pn pc) 43
  have M2 := Lib.hid (show MedAt w [] ((wr.heap.size, qcells k N pa pn pc, 43) :: Ra) g s _ from hm2.permB (List.perm_append_singleton _ _))
  clear hm2 hcell hcell1 hcell2 hqc
  generalize hgq : wr.heap.size = gq at *
  generalize hw2 : wr.alloc (.cells (qcells k N pa pn pc) 43) = w2 at *
  have HR2 := Lib.hid P1.out.row
  have HOK := Lib.hid P1.out.ok
  have HLE := Lib.hid P1.out.len
  have hL := P1.out.most
  clear hw2 hgq P1
  obtain ⟨d0, _⟩ := M2.out.cellB (gn := gq) (cs := qcells k N pa pn pc) (t := 43) (by simp) 0 (v := .int .i64 k) rfl
  obtain ⟨d1, _⟩ := M2.out.cellB (gn := gq) (cs := qcells k N pa pn pc) (t := 43) (by simp) 1 (v := .int .i64 N) rfl
  obtain ⟨d2, _⟩ := M2.out.cellB (gn := gq) (cs := qcells k N pa pn pc) (t := 43) (by simp) 2 (v := .slice pa pn pc) rfl
  obtain ⟨m, hm⟩ : ∃ m, m = min pn 9 := ⟨_, rfl⟩
  have tm : min (pn : Int) 9 = (m : Int) := by omega
  have tm2 : (if (9 : Int) < (pn : Int) then (9 : Int) else (pn : Int)) = (m : Int) := by split <;> omega
  have i1 : (0 : Int) ≤ (m : Int) := by omega
  have i2 : (m : Int) ≤ (pc : Int) := by omega
  have hm9 : m ≤ 9 := by omega
  have hsb := (HQ.out.src.below M2.out.bel).cutHi (k := m) (by omega)
  have HSB := Lib.hid hsb
  have HBL : Hid (Byt (pl.take m)) := Lib.hid (fun x hx => HQ.out.byt x (List.mem_of_mem_take hx))
  generalize pl.take m = bl at *
  clear hm hsb HQ
  have dA : ∀ ob, (w2.alloc ob).cell? ⟨gq, 2, none⟩ = some (.slice pa pn pc) := fun ob => ((bel_alloc (Below.refl _ w2) ob).cell (World.block_lt_of_cell? w2 _ d2)).trans d2
  have HSE := Lib.hid ((Sts.nil w2).add (g := w2.heap.size) rfl #[] 5)
  obtain ⟨i0, hi0, hz, hs1, hs2⟩ := info_parts byte_info
  go_upto_region 11 with (at_builtin; go_must (refine row_append (by rfl) (.tmp 34) (.tmp 41) 23 rfl [] [] Try.underlying23 hi0 hz hs1 hs2 rfl (by omega) (Row.empty _ _ _) HSE.out rfl rfl (HSB.out.alloc _) (bs_one _) (by omega) (by omega) ?_); rintro R3 a3 c3 w3 hR3 hS3; simp only [Nat.zero_add, List.nil_append] at hR3 hS3 ⊢)
  have hm3 := M2.out.join (R' := R3 ++ []) (W' := w3) hS3
  have M3 := Lib.hid (show MedAt w [] ((gq, qcells k N pa pn pc, 43) :: (R3 ++ Ra)) g s w3 from hm3.permB (by simp))
  have HR3 := Lib.hid hR3
  clear hm3 hR3 hS3 HSE HSB M2 d0 d1 d2 dA tm tm2 i1 i2
  obtain ⟨d0, _⟩ := M3.out.cellB (gn := gq) (cs := qcells k N pa pn pc) (t := 43) (by simp) 0 (v := .int .i64 k) rfl
  obtain ⟨d1, _⟩ := M3.out.cellB (gn := gq) (cs := qcells k N pa pn pc) (t := 43) (by simp) 1 (v := .int .i64 N) rfl
  have e1 : (k == 1) = false := by rw [beq_eq_false_iff_ne]; omega
  have e2 : (k == 2) = false := by rw [beq_eq_false_iff_ne]; omega
  have e3 : (k == 3) = true := by rw [beq_iff_eq]; omega
  have e4 : (k == 4) = false := by rw [beq_eq_false_iff_ne]; omega
  have e5 : (k == 5) = false := by rw [beq_eq_false_iff_ne]; omega
  have e6 : (k == 6) = false := by rw [beq_eq_false_iff_ne]; omega
  have e7 : (k == 7) = false := by rw [beq_eq_false_iff_ne]; omega
  have e8 : decide (1 ≤ k) = true := decide_eq_true (by omega)
  have e9 : decide (k ≤ 3) = true := decide_eq_true (by omega)

  have b3 : decide (N < 0) = false := decide_eq_false (by omega)
  have b4 : decide ((L : Int) < N) = false := decide_eq_false (by omega)
  have X : PwGoes s true fu := by have := goes_off (s := s) HSO.out; rwa [HFU.out] at this
  obtain ⟨s', ea, l1, l2, l3, l4⟩ := cut_off (n := N) (by rw [HLE.out]; omega) X
  have hok : s'.Ok := by have := HOK.out.cut N; rw [ea] at this; exact this
  rw [HFI.out] at l3
  clear X
  have EA := Lib.hid ea; have L1' := Lib.hid l1; have L2' := Lib.hid l2; have L3' := Lib.hid l3; have L4' := Lib.hid l4
  clear l1 l2 l3 l4 ea
  have HOK' := Lib.hid hok
  clear hok
  go_wp2_with fail
  refine (cut_is N M3.out HOK.out EA.out).mono ?_
  rintro e w4 ⟨rfl, hm⟩
  have M4 := Lib.hid hm
  clear hm M3
  have HR2' := Lib.hid (show Row Ra 5 1 a L c (bs s'.b) by rw [L4'.out]; exact HR2.out)
  have HLE' := Lib.hid (show s'.b.length = L by rw [L4'.out]; exact HLE.out)
  clear HOK HR2 HLE HFI HFU HSO EA L4'
  have M3 := M4; have HOK := HOK'; have HR2 := HR2'; have HLE := HLE'; have HFI := L3'; have HFU := L2'; have HSO := L1'
  clear M4 HOK' HR2' HLE' L3' L2' L1'
  go_wp2_with fail
  refine (bytes_is M3.out HOK.out (l := []) (by unfold Med.bytes; rw [HSO.out]; rfl)).mono ?_
  rintro e w5 ⟨a5, m5, c5, rfl, hP, hm, hb, hl, hc1, hc2⟩
  obtain rfl : m5 = 0 := hl
  have M6 := Lib.hid hm
  clear hP hm hb hc1 hc2 M3
  go_wp2_with fail
  refine (firm_is M6.out (n := (fi : Int)) (by rw [HFI.out])).mono ?_
  rintro e w7 ⟨rfl, rfl⟩
  have f1 : ((fi : Int) != (fi : Int)) = false := by simp
  go_wp2_with fail
  refine (off_is M6.out HSO.out).mono ?_
  rintro e w8 ⟨rfl, rfl⟩
  go_wp2_with fail
  refine ⟨?_, by simp [playMu, intOf]; omega⟩
  unfold PlayI
  refine ⟨_, _, _, _, _, _, _, _, _, _, _, _, _, _, _, _, _, _, _, _, _, _, _, _, _, _, _, _, _, _, _, _, _, _, _, _, _, _, _, _, _, _, _, _, _, _, _, _, _, _, _, _, _, _, _, _, _, _, _, _, _, _, _, _, _, _, _, _, _, _, _, _, _, _, _, _, _, _, _, _, _, _, _, _, _, _, _, _, _, _, _, _, _, _, _, _, _, _, _, _, _, _, _, _, _, _, _, _, _, _, _, _, _, _, _, _, _, _, _, _, _, _, _, _, _, _, _, _, _, _, _, _, _, _, _, _, _, _, _, _, _, _, _, _, _, _, _, _, _, _, _, _, _, _, _, _, _, _, _, _, _, _, _, _, _, _, _, _, _, _, _, _, _, _, _, _, _, _, _, _, _, _, _, _, _, _, _, _, _, _, _, _, _, _, _, _, _, _, _, _, _, _, _, _, _, _, _, _, _, _, _, _, _, _, _, _, _, _, _, _, _, _, _, _, _, _, _, _, _, _, _, _, _, _, _, _, _, _, _, _, _, _, ⟨i + 1, s', Ra, by simp, by omega, HFI.out, HFU.out, HSO.out, Lib.hid ⟨M6.out.subB (List.Sublist.cons _ (List.sublist_append_right _ _)), HR2.out, HOK.out, HLE.out, by omega⟩⟩, rfl⟩

set_option maxHeartbeats 16000000 in
set_option maxRecDepth 1000000 in
theorem play_cutZero (w : World) (A1 : Option Addr) (n1 c1 : Nat) (f : Nat → Ask) (c1_ c17_ c18_ c19_ c245_ : Value) (u2 u9 u10 u11 u12 u13 u14 u15 u16 u20 u21 u22 u23 u24 u25 u26 u27 u28 u29 u30 u31 u32 u33 u34 u35 u36 u37 u38 u39 u40 u41 u42 u43 u44 u45 u46 u47 u48 u49 u50 u51 u52 u53 u54 u55 u56 u57 u58 u59 u60 u61 u62 u63 u64 u65 u66 u67 u68 u69 u70 u71 u72 u73 u74 u75 u76 u77 u78 u79 u80 u81 u82 u83 u84 u85 u86 u87 u88 u89 u90 u91 u92 u93 u94 u95 u96 u97 u98 u99 u100 u101 u102 u103 u104 u105 u106 u107 u108 u109 u110 u111 u112 u113 u114 u115 u116 u117 u118 u119 u120 u121 u122 u123 u124 u125 u126 u127 u128 u129 u130 u131 u132 u133 u134 u135 u136 u137 u138 u139 u140 u141 u142 u143 u144 u145 u146 u147 u148 u149 u150 u151 u152 u153 u154 u155 u156 u157 u158 u159 u160 u161 u162 u163 u164 u165 u166 u167 u168 u169 u170 u171 u172 u173 u174 u175 u176 u177 u178 u179 u180 u181 u182 u183 u184 u185 u186 u187 u188 u189 u190 u191 u192 u193 u194 u195 u196 u197 u198 u199 u200 u201 u202 u203 u204 u205 u206 u207 u208 u209 u210 u211 u212 u213 u214 u215 u216 u217 u218 u219 u220 u221 u222 u223 u224 u225 u226 u227 u228 u229 u230 u231 u232 u233 u234 u235 u236 u237 u238 u239 u240 u241 u242 u243 u244 : Value) (i g L c fi : Nat) (fu : Int) (so : Bool) (s : Med) (Ra : List Ent) (a : Option Addr) (Q0 : Exit → Act → World → Prop) (wr : World)
    (hmost : n1 ≤ 9223372036854775807) (q2 : i < n1) (q3 : i < 40) (H1 : Hid (AsksIn w A1 n1 f)) (P1 : Hid (Play w g s Ra a c L i wr)) (HFI : Hid (s.firm = fi)) (HFU : Hid (fuL s = fu)) (HSO : Hid (s.off = so)) (fb0 : -1 ≤ fu) (fb1 : fu ≤ 9223372036854775807) (hk0 : 3 ≤ (f i).k) (hk1 : (f i).k ≤ 3) (hso : so = false) (hf0 : 0 ≤ fu) (hf1 : fu ≤ 0) (hn0 : 0 ≤ (f i).n) (hn1 : (f i).n ≤ L) :
    Code.wp Try.prog playBody (Exit.then (fun a' w'' => PlayI w A1 n1 c1 c1_ c17_ c18_ c19_ c245_ a' w'' ∧ playMu a' w'' < playMu ⟨#[.slice A1 n1 c1, c1_, u2, .pointer (some ⟨g, 0, none⟩), .slice a L c, .int .i64 fi, .int .i64 fu, .bool so, .int .i64 i, u9, u10, u11, u12, u13, u14, u15, u16, c17_, c18_, c19_, u20, u21, u22, u23, u24, u25, u26, u27, u28, u29, u30, u31, u32, u33, u34, u35, u36, u37, u38, u39, u40, u41, u42, u43, u44, u45, u46, u47, u48, u49, u50, u51, u52, u53, u54, u55, u56, u57, u58, u59, u60, u61, u62, u63, u64, u65, u66, u67, u68, u69, u70, u71, u72, u73, u74, u75, u76, u77, u78, u79, u80, u81, u82, u83, u84, u85, u86, u87, u88, u89, u90, u91, u92, u93, u94, u95, u96, u97, u98, u99, u100, u101, u102, u103, u104, u105, u106, u107, u108, u109, u110, u111, u112, u113, u114, u115, u116, u117, u118, u119, u120, u121, u122, u123, u124, u125, u126, u127, u128, u129, u130, u131, u132, u133, u134, u135, u136, u137, u138, u139, u140, u141, u142, u143, u144, u145, u146, u147, u148, u149, u150, u151, u152, u153, u154, u155, u156, u157, u158, u159, u160, u161, u162, u163, u164, u165, u166, u167, u168, u169, u170, u171, u172, u173, u174, u175, u176, u177, u178, u179, u180, u181, u182, u183, u184, u185, u186, u187, u188, u189, u190, u191, u192, u193, u194, u195, u196, u197, u198, u199, u200, u201, u202, u203, u204, u205, u206, u207, u208, u209, u210, u211, u212, u213, u214, u215, u216, u217, u218, u219, u220, u221, u222, u223, u224, u225, u226, u227, u228, u229, u230, u231, u232, u233, u234, u235, u236, u237, u238, u239, u240, u241, u242, u243, u244, c245_], []⟩ wr) Q0) ⟨#[.slice A1 n1 c1, c1_, u2, .pointer (some ⟨g, 0, none⟩), .slice a L c, .int .i64 fi, .int .i64 fu, .bool so, .int .i64 i, u9, u10, u11, u12, u13, u14, u15, u16, c17_, c18_, c19_, u20, u21, u22, u23, u24, u25, u26, u27, u28, u29, u30, u31, u32, u33, u34, u35, u36, u37, u38, u39, u40, u41, u42, u43, u44, u45, u46, u47, u48, u49, u50, u51, u52, u53, u54, u55, u56, u57, u58, u59, u60, u61, u62, u63, u64, u65, u66, u67, u68, u69, u70, u71, u72, u73, u74, u75, u76, u77, u78, u79, u80, u81, u82, u83, u84, u85, u86, u87, u88, u89, u90, u91, u92, u93, u94, u95, u96, u97, u98, u99, u100, u101, u102, u103, u104, u105, u106, u107, u108, u109, u110, u111, u112, u113, u114, u115, u116, u117, u118, u119, u120, u121, u122, u123, u124, u125, u126, u127, u128, u129, u130, u131, u132, u133, u134, u135, u136, u137, u138, u139, u140, u141, u142, u143, u144, u145, u146, u147, u148, u149, u150, u151, u152, u153, u154, u155, u156, u157, u158, u159, u160, u161, u162, u163, u164, u165, u166, u167, u168, u169, u170, u171, u172, u173, u174, u175, u176, u177, u178, u179, u180, u181, u182, u183, u184, u185, u186, u187, u188, u189, u190, u191, u192, u193, u194, u195, u196, u197, u198, u199, u200, u201, u202, u203, u204, u205, u206, u207, u208, u209, u210, u211, u212, u213, u214, u215, u216, u217, u218, u219, u220, u221, u222, u223, u224, u225, u226, u227, u228, u229, u230, u231, u232, u233, u234, u235, u236, u237, u238, u239, u240, u241, u242, u243, u244, c245_], []⟩ wr := by
  conv => arg 2; whnf
  subst hso
  obtain ⟨ad, hA, hq⟩ := H1.out.at_ i q2
  have hcell := P1.out.med.bel.cell (World.block_lt_of_cell? w _ hq.c0) |>.trans hq.c0
  have hcell1 := P1.out.med.bel.cell (World.block_lt_of_cell? w _ hq.at1) |>.trans hq.at1
  have hcell2 := P1.out.med.bel.cell (World.block_lt_of_cell? w _ hq.at2) |>.trans hq.at2
  obtain ⟨⟨k, N, pa, pn, pc, pl⟩, hfq⟩ : ∃ q, f i = q := ⟨_, rfl⟩
  rw [hfq] at hcell hcell1 hcell2 hq hk0 hk1 hn0 hn1
  replace hk0 : 3 ≤ k := hk0
  replace hk1 : k ≤ 3 := hk1
  replace hn0 : 0 ≤ N := hn0
  replace hn1 : N ≤ L := hn1
  obtain ⟨_, _, _, hbi, k0, k1, nn0, nn1⟩ := hq
  simp only at hcell hcell1 hcell2 hbi k0 k1 nn0 nn1
  have HQ := Lib.hid hbi
  have hpc := hbi.le
  have hpcap := hbi.cap
  clear hbi hfq
  obtain rfl := hA
  go_upto_region 10 with fail
  have hqc : (#[.int .i64 k, .int .i64 N, .slice pa pn pc] : Array Value) = qcells k N pa pn pc := rfl
  rw [hqc]
  have hm2 : MedAt w [] (Ra ++ [(wr.heap.size, qcells k N pa pn pc, 43)]) g s (wr.alloc (.cells (qcells k N pa pn pc) 43)) := P1.out.med.addB (gn := wr.heap.size) rfl (qcells k N pa pn pc) 43
  have M2 := Lib.hid (show MedAt w [] ((wr.heap.size, qcells k N pa pn pc, 43) :: Ra) g s _ from hm2.permB (List.perm_append_singleton _ _))
  clear hm2 hcell hcell1 hcell2 hqc
  generalize hgq : wr.heap.size = gq at *
  generalize hw2 : wr.alloc (.cells (qcells k N pa pn pc) 43) = w2 at *
  have HR2 := Lib.hid P1.out.row
  have HOK := Lib.hid P1.out.ok
  have HLE := Lib.hid P1.out.len
  have hL := P1.out.most
  clear hw2 hgq P1
  obtain ⟨d0, _⟩ := M2.out.cellB (gn := gq) (cs := qcells k N pa pn pc) (t := 43) (by simp) 0 (v := .int .i64 k) rfl
  obtain ⟨d1, _⟩ := M2.out.cellB (gn := gq) (cs := qcells k N pa pn pc) (t := 43) (by simp) 1 (v := .int .i64 N) rfl
  obtain ⟨d2, _⟩ := M2.out.cellB (gn := gq) (cs := qcells k N pa pn pc) (t := 43) (by simp) 2 (v := .slice pa pn pc) rfl
  obtain ⟨m, hm⟩ : ∃ m, m = min pn 9 := ⟨_, rfl⟩
  have tm : min (pn : Int) 9 = (m : Int) := by omega
  have tm2 : (if (9 : Int) < (pn : Int) then (9 : Int) else (pn : Int)) = (m : Int) := by split <;> omega
  have i1 : (0 : Int) ≤ (m : Int) := by omega
  have i2 : (m : Int) ≤ (pc : Int) := by omega
  have hm9 : m ≤ 9 := by omega
  have hsb := (HQ.out.src.below M2.out.bel).cutHi (k := m) (by omega)
  have HSB := Lib.hid hsb
  have HBL : Hid (Byt (pl.take m)) := Lib.hid (fun x hx => HQ.out.byt x (List.mem_of_mem_take hx))
  generalize pl.take m = bl at *
  clear hm hsb HQ
  have dA : ∀ ob, (w2.alloc ob).cell? ⟨gq, 2, none⟩ = some (.slice pa pn pc) := fun ob => ((bel_alloc (Below.refl _ w2) ob).cell (World.block_lt_of_cell? w2 _ d2)).trans d2
  have HSE := Lib.hid ((Sts.nil w2).add (g := w2.heap.size) rfl #[] 5)
  obtain ⟨i0, hi0, hz, hs1, hs2⟩ := info_parts byte_info
  go_upto_region 11 with (at_builtin; go_must (refine row_append (by rfl) (.tmp 34) (.tmp 41) 23 rfl [] [] Try.underlying23 hi0 hz hs1 hs2 rfl (by omega) (Row.empty _ _ _) HSE.out rfl rfl (HSB.out.alloc _) (bs_one _) (by omega) (by omega) ?_); rintro R3 a3 c3 w3 hR3 hS3; simp only [Nat.zero_add, List.nil_append] at hR3 hS3 ⊢)
  have hm3 := M2.out.join (R' := R3 ++ []) (W' := w3) hS3
  have M3 := Lib.hid (show MedAt w [] ((gq, qcells k N pa pn pc, 43) :: (R3 ++ Ra)) g s w3 from hm3.permB (by simp))
  have HR3 := Lib.hid hR3
  clear hm3 hR3 hS3 HSE HSB M2 d0 d1 d2 dA tm tm2 i1 i2
  obtain ⟨d0, _⟩ := M3.out.cellB (gn := gq) (cs := qcells k N pa pn pc) (t := 43) (by simp) 0 (v := .int .i64 k) rfl
  obtain ⟨d1, _⟩ := M3.out.cellB (gn := gq) (cs := qcells k N pa pn pc) (t := 43) (by simp) 1 (v := .int .i64 N) rfl
  have e1 : (k == 1) = false := by rw [beq_eq_false_iff_ne]; omega
  have e2 : (k == 2) = false := by rw [beq_eq_false_iff_ne]; omega
  have e3 : (k == 3) = true := by rw [beq_iff_eq]; omega
  have e4 : (k == 4) = false := by rw [beq_eq_false_iff_ne]; omega
  have e5 : (k == 5) = false := by rw [beq_eq_false_iff_ne]; omega
  have e6 : (k == 6) = false := by rw [beq_eq_false_iff_ne]; omega
  have e7 : (k == 7) = false := by rw [beq_eq_false_iff_ne]; omega
  have e8 : decide (1 ≤ k) = true := decide_eq_true (by omega)
  have e9 : decide (k ≤ 3) = true := decide_eq_true (by omega)
  have b1 : (fu == 0) = true := by rw [beq_iff_eq]; omega
  have b3 : decide (N < 0) = false := decide_eq_false (by omega)
  have b4 : decide ((L : Int) < N) = false := decide_eq_false (by omega)
  have X : PwGoes s true fu := by have := goes_zero HSO.out (by rw [HFU.out]; omega); rwa [HFU.out] at this
  obtain ⟨s', ea, l1, l2, l3, l4⟩ := cut_off (n := N) (by rw [HLE.out]; omega) X
  have hok : s'.Ok := by have := HOK.out.cut N; rw [ea] at this; exact this
  rw [HFI.out] at l3
  clear X
  have EA := Lib.hid ea; have L1' := Lib.hid l1; have L2' := Lib.hid l2; have L3' := Lib.hid l3; have L4' := Lib.hid l4
  clear l1 l2 l3 l4 ea
  have HOK' := Lib.hid hok
  clear hok
  go_wp2_with fail
  refine (cut_is N M3.out HOK.out EA.out).mono ?_
  rintro e w4 ⟨rfl, hm⟩
  have M4 := Lib.hid hm
  clear hm M3
  have HR2' := Lib.hid (show Row Ra 5 1 a L c (bs s'.b) by rw [L4'.out]; exact HR2.out)
  have HLE' := Lib.hid (show s'.b.length = L by rw [L4'.out]; exact HLE.out)
  clear HOK HR2 HLE HFI HFU HSO EA L4'
  have M3 := M4; have HOK := HOK'; have HR2 := HR2'; have HLE := HLE'; have HFI := L3'; have HFU := L2'; have HSO := L1'
  clear M4 HOK' HR2' HLE' L3' L2' L1'
  go_wp2_with fail
  refine (bytes_is M3.out HOK.out (l := []) (by unfold Med.bytes; rw [HSO.out]; rfl)).mono ?_
  rintro e w5 ⟨a5, m5, c5, rfl, hP, hm, hb, hl, hc1, hc2⟩
  obtain rfl : m5 = 0 := hl
  have M6 := Lib.hid hm
  clear hP hm hb hc1 hc2 M3
  go_wp2_with fail
  refine (firm_is M6.out (n := (fi : Int)) (by rw [HFI.out])).mono ?_
  rintro e w7 ⟨rfl, rfl⟩
  have f1 : ((fi : Int) != (fi : Int)) = false := by simp
  go_wp2_with fail
  refine (off_is M6.out HSO.out).mono ?_
  rintro e w8 ⟨rfl, rfl⟩
  go_wp2_with fail
  refine ⟨?_, by simp [playMu, intOf]; omega⟩
  unfold PlayI
  refine ⟨_, _, _, _, _, _, _, _, _, _, _, _, _, _, _, _, _, _, _, _, _, _, _, _, _, _, _, _, _, _, _, _, _, _, _, _, _, _, _, _, _, _, _, _, _, _, _, _, _, _, _, _, _, _, _, _, _, _, _, _, _, _, _, _, _, _, _, _, _, _, _, _, _, _, _, _, _, _, _, _, _, _, _, _, _, _, _, _, _, _, _, _, _, _, _, _, _, _, _, _, _, _, _, _, _, _, _, _, _, _, _, _, _, _, _, _, _, _, _, _, _, _, _, _, _, _, _, _, _, _, _, _, _, _, _, _, _, _, _, _, _, _, _, _, _, _, _, _, _, _, _, _, _, _, _, _, _, _, _, _, _, _, _, _, _, _, _, _, _, _, _, _, _, _, _, _, _, _, _, _, _, _, _, _, _, _, _, _, _, _, _, _, _, _, _, _, _, _, _, _, _, _, _, _, _, _, _, _, _, _, _, _, _, _, _, _, _, _, _, _, _, _, _, _, _, _, _, _, _, _, _, _, _, _, _, _, _, _, _, _, _, _, ⟨i + 1, s', Ra, by simp, by omega, HFI.out, HFU.out, HSO.out, Lib.hid ⟨M6.out.subB (List.Sublist.cons _ (List.sublist_append_right _ _)), HR2.out, HOK.out, HLE.out, by omega⟩⟩, rfl⟩

set_option maxHeartbeats 16000000 in
set_option maxRecDepth 1000000 in
theorem play_cutPos (w : World) (A1 : Option Addr) (n1 c1 : Nat) (f : Nat → Ask) (c1_ c17_ c18_ c19_ c245_ : Value) (u2 u9 u10 u11 u12 u13 u14 u15 u16 u20 u21 u22 u23 u24 u25 u26 u27 u28 u29 u30 u31 u32 u33 u34 u35 u36 u37 u38 u39 u40 u41 u42 u43 u44 u45 u46 u47 u48 u49 u50 u51 u52 u53 u54 u55 u56 u57 u58 u59 u60 u61 u62 u63 u64 u65 u66 u67 u68 u69 u70 u71 u72 u73 u74 u75 u76 u77 u78 u79 u80 u81 u82 u83 u84 u85 u86 u87 u88 u89 u90 u91 u92 u93 u94 u95 u96 u97 u98 u99 u100 u101 u102 u103 u104 u105 u106 u107 u108 u109 u110 u111 u112 u113 u114 u115 u116 u117 u118 u119 u120 u121 u122 u123 u124 u125 u126 u127 u128 u129 u130 u131 u132 u133 u134 u135 u136 u137 u138 u139 u140 u141 u142 u143 u144 u145 u146 u147 u148 u149 u150 u151 u152 u153 u154 u155 u156 u157 u158 u159 u160 u161 u162 u163 u164 u165 u166 u167 u168 u169 u170 u171 u172 u173 u174 u175 u176 u177 u178 u179 u180 u181 u182 u183 u184 u185 u186 u187 u188 u189 u190 u191 u192 u193 u194 u195 u196 u197 u198 u199 u200 u201 u202 u203 u204 u205 u206 u207 u208 u209 u210 u211 u212 u213 u214 u215 u216 u217 u218 u219 u220 u221 u222 u223 u224 u225 u226 u227 u228 u229 u230 u231 u232 u233 u234 u235 u236 u237 u238 u239 u240 u241 u242 u243 u244 : Value) (i g L c fi : Nat) (fu : Int) (so : Bool) (s : Med) (Ra : List Ent) (a : Option Addr) (Q0 : Exit → Act → World → Prop) (wr : World)
    (hmost : n1 ≤ 9223372036854775807) (q2 : i < n1) (q3 : i < 40) (H1 : Hid (AsksIn w A1 n1 f)) (P1 : Hid (Play w g s Ra a c L i wr)) (HFI : Hid (s.firm = fi)) (HFU : Hid (fuL s = fu)) (HSO : Hid (s.off = so)) (fb0 : -1 ≤ fu) (fb1 : fu ≤ 9223372036854775807) (hk0 : 3 ≤ (f i).k) (hk1 : (f i).k ≤ 3) (hso : so = false) (hf0 : 0 < fu) (hn0 : 0 ≤ (f i).n) (hn1 : (f i).n ≤ L) :
    Code.wp Try.prog playBody (Exit.then (fun a' w'' => PlayI w A1 n1 c1 c1_ c17_ c18_ c19_ c245_ a' w'' ∧ playMu a' w'' < playMu ⟨#[.slice A1 n1 c1, c1_, u2, .pointer (some ⟨g, 0, none⟩), .slice a L c, .int .i64 fi, .int .i64 fu, .bool so, .int .i64 i, u9, u10, u11, u12, u13, u14, u15, u16, c17_, c18_, c19_, u20, u21, u22, u23, u24, u25, u26, u27, u28, u29, u30, u31, u32, u33, u34, u35, u36, u37, u38, u39, u40, u41, u42, u43, u44, u45, u46, u47, u48, u49, u50, u51, u52, u53, u54, u55, u56, u57, u58, u59, u60, u61, u62, u63, u64, u65, u66, u67, u68, u69, u70, u71, u72, u73, u74, u75, u76, u77, u78, u79, u80, u81, u82, u83, u84, u85, u86, u87, u88, u89, u90, u91, u92, u93, u94, u95, u96, u97, u98, u99, u100, u101, u102, u103, u104, u105, u106, u107, u108, u109, u110, u111, u112, u113, u114, u115, u116, u117, u118, u119, u120, u121, u122, u123, u124, u125, u126, u127, u128, u129, u130, u131, u132, u133, u134, u135, u136, u137, u138, u139, u140, u141, u142, u143, u144, u145, u146, u147, u148, u149, u150, u151, u152, u153, u154, u155, u156, u157, u158, u159, u160, u161, u162, u163, u164, u165, u166, u167, u168, u169, u170, u171, u172, u173, u174, u175, u176, u177, u178, u179, u180, u181, u182, u183, u184, u185, u186, u187, u188, u189, u190, u191, u192, u193, u194, u195, u196, u197, u198, u199, u200, u201, u202, u203, u204, u205, u206, u207, u208, u209, u210, u211, u212, u213, u214, u215, u216, u217, u218, u219, u220, u221, u222, u223, u224, u225, u226, u227, u228, u229, u230, u231, u232, u233, u234, u235, u236, u237, u238, u239, u240, u241, u242, u243, u244, c245_], []⟩ wr) Q0) ⟨#[.slice A1 n1 c1, c1_, u2, .pointer (some ⟨g, 0, none⟩), .slice a L c, .int .i64 fi, .int .i64 fu, .bool so, .int .i64 i, u9, u10, u11, u12, u13, u14, u15, u16, c17_, c18_, c19_, u20, u21, u22, u23, u24, u25, u26, u27, u28, u29, u30, u31, u32, u33, u34, u35, u36, u37, u38, u39, u40, u41, u42, u43, u44, u45, u46, u47, u48, u49, u50, u51, u52, u53, u54, u55, u56, u57, u58, u59, u60, u61, u62, u63, u64, u65, u66, u67, u68, u69, u70, u71, u72, u73, u74, u75, u76, u77, u78, u79, u80, u81, u82, u83, u84, u85, u86, u87, u88, u89, u90, u91, u92, u93, u94, u95, u96, u97, u98, u99, u100, u101, u102, u103, u104, u105, u106, u107, u108, u109, u110, u111, u112, u113, u114, u115, u116, u117, u118, u119, u120, u121, u122, u123, u124, u125, u126, u127, u128, u129, u130, u131, u132, u133, u134, u135, u136, u137, u138, u139, u140, u141, u142, u143, u144, u145, u146, u147, u148, u149, u150, u151, u152, u153, u154, u155, u156, u157, u158, u159, u160, u161, u162, u163, u164, u165, u166, u167, u168, u169, u170, u171, u172, u173, u174, u175, u176, u177, u178, u179, u180, u181, u182, u183, u184, u185, u186, u187, u188, u189, u190, u191, u192, u193, u194, u195, u196, u197, u198, u199, u200, u201, u202, u203, u204, u205, u206, u207, u208, u209, u210, u211, u212, u213, u214, u215, u216, u217, u218, u219, u220, u221, u222, u223, u224, u225, u226, u227, u228, u229, u230, u231, u232, u233, u234, u235, u236, u237, u238, u239, u240, u241, u242, u243, u244, c245_], []⟩ wr := by
  conv => arg 2; whnf
  subst hso
  obtain ⟨ad, hA, hq⟩ := H1.out.at_ i q2
  have hcell := P1.out.med.bel.cell (World.block_lt_of_cell? w _ hq.c0) |>.trans hq.c0
  have hcell1 := P1.out.med.bel.cell (World.block_lt_of_cell? w _ hq.at1) |>.trans hq.at1
  have hcell2 := P1.out.med.bel.cell (World.block_lt_of_cell? w _ hq.at2) |>.trans hq.at2
  obtain ⟨⟨k, N, pa, pn, pc, pl⟩, hfq⟩ : ∃ q, f i = q := ⟨_, rfl⟩
  rw [hfq] at hcell hcell1 hcell2 hq hk0 hk1 hn0 hn1
  replace hk0 : 3 ≤ k := hk0
  replace hk1 : k ≤ 3 := hk1
  replace hn0 : 0 ≤ N := hn0
  replace hn1 : N ≤ L := hn1
  obtain ⟨_, _, _, hbi, k0, k1, nn0, nn1⟩ := hq
  simp only at hcell hcell1 hcell2 hbi k0 k1 nn0 nn1
  have HQ := Lib.hid hbi
  have hpc := hbi.le
  have hpcap := hbi.cap
  clear hbi hfq
  obtain rfl := hA
  go_upto_region 10 with fail
  have hqc : (#[.int .i64 k, .int .i64 N, .slice pa pn pc] : Array Value) = qcells k N pa pn pc := rfl
  rw [hqc]
  have hm2 : MedAt w [] (Ra ++ [(wr.heap.size, qcells k N pa pn pc, 43)]) g s (wr.alloc (.cells (qcells k N pa pn pc) 43)) := P1.out.med.addB (gn := wr.heap.size) rfl (qcells k N pa pn pc) 43
  have M2 := Lib.hid (show MedAt w [] ((wr.heap.size, qcells k N pa pn pc, 43) :: Ra) g s _ from hm2.permB (List.perm_append_singleton _ _))
  clear hm2 hcell hcell1 hcell2 hqc
  generalize hgq : wr.heap.size = gq at *
  generalize hw2 : wr.alloc (.cells (qcells k N pa pn pc) 43) = w2 at *
  have HR2 := Lib.hid P1.out.row
  have HOK := Lib.hid P1.out.ok
  have HLE := Lib.hid P1.out.len
  have hL := P1.out.most
  clear hw2 hgq P1
  obtain ⟨d0, _⟩ := M2.out.cellB (gn := gq) (cs := qcells k N pa pn pc) (t := 43) (by simp) 0 (v := .int .i64 k) rfl
  obtain ⟨d1, _⟩ := M2.out.cellB (gn := gq) (cs := qcells k N pa pn pc) (t := 43) (by simp) 1 (v := .int .i64 N) rfl
  obtain ⟨d2, _⟩ := M2.out.cellB (gn := gq) (cs := qcells k N pa pn pc) (t := 43) (by simp) 2 (v := .slice pa pn pc) rfl
  obtain ⟨m, hm⟩ : ∃ m, m = min pn 9 := ⟨_, rfl⟩
  have tm : min (pn : Int) 9 = (m : Int) := by omega
  have tm2 : (if (9 : Int) < (pn : Int) then (9 : Int) else (pn : Int)) = (m : Int) := by split <;> omega
  have i1 : (0 : Int) ≤ (m : Int) := by omega
  have i2 : (m : Int) ≤ (pc : Int) := by omega
  have hm9 : m ≤ 9 := by omega
  have hsb := (HQ.out.src.below M2.out.bel).cutHi (k := m) (by omega)
  have HSB := Lib.hid hsb
  have HBL : Hid (Byt (pl.take m)) := Lib.hid (fun x hx => HQ.out.byt x (List.mem_of_mem_take hx))
  generalize pl.take m = bl at *
  clear hm hsb HQ
  have dA : ∀ ob, (w2.alloc ob).cell? ⟨gq, 2, none⟩ = some (.slice pa pn pc) := fun ob => ((bel_alloc (Below.refl _ w2) ob).cell (World.block_lt_of_cell? w2 _ d2)).trans d2
  have HSE := Lib.hid ((Sts.nil w2).add (g := w2.heap.size) rfl #[] 5)
  obtain ⟨i0, hi0, hz, hs1, hs2⟩ := info_parts byte_info
  go_upto_region 11 with (at_builtin; go_must (refine row_append (by rfl) (.tmp 34) (.tmp 41) 23 rfl [] [] Try.underlying23 hi0 hz hs1 hs2 rfl (by omega) (Row.empty _ _ _) HSE.out rfl rfl (HSB.out.alloc _) (bs_one _) (by omega) (by omega) ?_); rintro R3 a3 c3 w3 hR3 hS3; simp only [Nat.zero_add, List.nil_append] at hR3 hS3 ⊢)
  have hm3 := M2.out.join (R' := R3 ++ []) (W' := w3) hS3
  have M3 := Lib.hid (show MedAt w [] ((gq, qcells k N pa pn pc, 43) :: (R3 ++ Ra)) g s w3 from hm3.permB (by simp))
  have HR3 := Lib.hid hR3
  clear hm3 hR3 hS3 HSE HSB M2 d0 d1 d2 dA tm tm2 i1 i2
  obtain ⟨d0, _⟩ := M3.out.cellB (gn := gq) (cs := qcells k N pa pn pc) (t := 43) (by simp) 0 (v := .int .i64 k) rfl
  obtain ⟨d1, _⟩ := M3.out.cellB (gn := gq) (cs := qcells k N pa pn pc) (t := 43) (by simp) 1 (v := .int .i64 N) rfl
  have e1 : (k == 1) = false := by rw [beq_eq_false_iff_ne]; omega
  have e2 : (k == 2) = false := by rw [beq_eq_false_iff_ne]; omega
  have e3 : (k == 3) = true := by rw [beq_iff_eq]; omega
  have e4 : (k == 4) = false := by rw [beq_eq_false_iff_ne]; omega
  have e5 : (k == 5) = false := by rw [beq_eq_false_iff_ne]; omega
  have e6 : (k == 6) = false := by rw [beq_eq_false_iff_ne]; omega
  have e7 : (k == 7) = false := by rw [beq_eq_false_iff_ne]; omega
  have e8 : decide (1 ≤ k) = true := decide_eq_true (by omega)
  have e9 : decide (k ≤ 3) = true := decide_eq_true (by omega)
  have b1 : (fu == 0) = false := by rw [beq_eq_false_iff_ne]; omega
  have b2 : decide (0 < fu) = true := decide_eq_true (by omega)
  have b3 : decide (N < 0) = false := decide_eq_false (by omega)
  have b4 : decide ((L : Int) < N) = false := decide_eq_false (by omega)
  have X : PwGoes s false (fu - 1) := by have := goes_pos HSO.out (by rw [HFU.out]; omega); rwa [HFU.out] at this
  obtain ⟨q, rfl⟩ := Int.eq_ofNat_of_zero_le hn0
  have hqL : q ≤ L := by omega
  have b5 : decide (L < q) = false := decide_eq_false (by omega)
  obtain ⟨s', ea, l1, l2, l3, l4⟩ := cut_on (n := q) (by rw [HLE.out]; omega) X
  have hok : s'.Ok := by have := HOK.out.cut q; rw [ea] at this; exact this
  clear X
  have EA := Lib.hid ea; have L1' := Lib.hid l1; have L2' := Lib.hid l2; have L3' := Lib.hid l3; have L4' := Lib.hid l4
  clear l1 l2 l3 l4 ea
  have HOK' := Lib.hid hok
  clear hok
  go_wp2_with fail
  refine (cut_is (q : Int) M3.out HOK.out EA.out).mono ?_
  rintro e w4 ⟨rfl, hm⟩
  have M4 := Lib.hid hm
  clear hm M3
  clear d0 d1
  have hsa := (HR2.out.srcB M4.out (fun x hx => by simp [hx])).cutHi hqL
  have hcc := HR2.out.le
  have HSA := Lib.hid hsa
  clear hsa
  have i1 : (0 : Int) ≤ (q : Int) := by omega
  have i2 : (q : Int) ≤ (c : Int) := by omega
  obtain ⟨d1, _⟩ := M4.out.cellB (gn := gq) (cs := qcells k (q : Int) pa pn pc) (t := 43) (by simp) 1 (v := .int .i64 (q : Int)) rfl
  have dA : ∀ ob, (w4.alloc ob).cell? ⟨gq, 1, none⟩ = some (.int .i64 (q : Int)) := fun ob => ((bel_alloc (Below.refl _ w4) ob).cell (World.block_lt_of_cell? w4 _ d1)).trans d1
  have HSE := Lib.hid ((Sts.nil w4).add (g := w4.heap.size) rfl #[] 5)
  go_upto_region 37 with (at_builtin; (refine row_append (by rfl) (.tmp 121) (.tmp 125) 23 rfl [] [] Try.underlying23 hi0 hz hs1 hs2 rfl (by omega) (Row.empty _ _ _) HSE.out rfl rfl (HSA.out.alloc _) (bs_one _) (by omega) (by omega) ?_); rintro R5 a5 c5 w5 hR5 hS5; simp only [Nat.zero_add, List.nil_append] at hR5 hS5 ⊢)
  have hm5 := M4.out.join (R' := R5 ++ []) (W' := w5) hS5
  rw [List.append_nil] at hm5
  have M3 := Lib.hid hm5
  have HR2' := Lib.hid (show Row R5 5 1 a5 (q) c5 (bs s'.b) by rw [L4'.out]; simpa using hR5)
  have HLE' := Lib.hid (show s'.b.length = q by rw [L4'.out, List.length_take, HLE.out]; omega)
  clear hm5 hR5 hS5 M4 HSE HSA
  clear d1 dA
  obtain ⟨d1, _⟩ := M3.out.cellB (gn := gq) (cs := qcells k (q : Int) pa pn pc) (t := 43) (by simp) 1 (v := .int .i64 (q : Int)) rfl
  go_wp2_with fail
  clear HOK HR2 HLE HFI HFU HSO EA L4'
  have HOK := HOK'; have HR2 := HR2'; have HLE := HLE'; have HFI := L3'; have HFU := L2'; have HSO := L1'
  clear HOK' HR2' HLE' L3' L2' L1'
  refine (bytes_is M3.out HOK.out (l := s'.b) (by unfold Med.bytes; rw [HSO.out]; rfl)).mono ?_
  rintro e w5 ⟨a5, m5, c5, rfl, hP, hm, hb, hl, hc1, hc2⟩
  have hl5 : q = m5 := (hl.trans HLE.out).symm
  subst hl5
  have hR := HR2.out.srcB hm (fun x hx => by simp [hx])
  have M5 := Lib.hid hm; have S5 := Lib.hid hP; have S6 := Lib.hid hR
  clear hP hm hb hl hc1 hc2 hR M3
  go_wp2_with fail
  refine (same_yes s'.b s'.b S5.out S6.out (by omega) (by omega) rfl).mono ?_
  rintro e w6 ⟨rfl, n6, hw6⟩
  have M6 := Lib.hid (hw6 ▸ M5.out.drewN n6 : MedAt w [] _ g s' w6)
  clear hw6 M5 S5 S6
  go_wp2_with fail
  refine (firm_is M6.out (n := (q : Int)) (by rw [HFI.out])).mono ?_
  rintro e w7 ⟨rfl, rfl⟩
  have f1 : ((q : Int) != (q : Int)) = false := by simp
  go_wp2_with fail
  refine (off_is M6.out HSO.out).mono ?_
  rintro e w8 ⟨rfl, rfl⟩
  go_wp2_with fail
  refine ⟨?_, by simp [playMu, intOf]; omega⟩
  unfold PlayI
  refine ⟨_, _, _, _, _, _, _, _, _, _, _, _, _, _, _, _, _, _, _, _, _, _, _, _, _, _, _, _, _, _, _, _, _, _, _, _, _, _, _, _, _, _, _, _, _, _, _, _, _, _, _, _, _, _, _, _, _, _, _, _, _, _, _, _, _, _, _, _, _, _, _, _, _, _, _, _, _, _, _, _, _, _, _, _, _, _, _, _, _, _, _, _, _, _, _, _, _, _, _, _, _, _, _, _, _, _, _, _, _, _, _, _, _, _, _, _, _, _, _, _, _, _, _, _, _, _, _, _, _, _, _, _, _, _, _, _, _, _, _, _, _, _, _, _, _, _, _, _, _, _, _, _, _, _, _, _, _, _, _, _, _, _, _, _, _, _, _, _, _, _, _, _, _, _, _, _, _, _, _, _, _, _, _, _, _, _, _, _, _, _, _, _, _, _, _, _, _, _, _, _, _, _, _, _, _, _, _, _, _, _, _, _, _, _, _, _, _, _, _, _, _, _, _, _, _, _, _, _, _, _, _, _, _, _, _, _, _, _, _, _, _, _, ⟨i + 1, s', R5, by simp, by omega, HFI.out, HFU.out, HSO.out, Lib.hid ⟨M6.out.subB (List.sublist_append_left _ _), HR2.out, HOK.out, HLE.out, by omega⟩⟩, rfl⟩

set_option maxHeartbeats 16000000 in
set_option maxRecDepth 1000000 in
theorem play_cutNeg (w : World) (A1 : Option Addr) (n1 c1 : Nat) (f : Nat → Ask) (c1_ c17_ c18_ c19_ c245_ : Value) (u2 u9 u10 u11 u12 u13 u14 u15 u16 u20 u21 u22 u23 u24 u25 u26 u27 u28 u29 u30 u31 u32 u33 u34 u35 u36 u37 u38 u39 u40 u41 u42 u43 u44 u45 u46 u47 u48 u49 u50 u51 u52 u53 u54 u55 u56 u57 u58 u59 u60 u61 u62 u63 u64 u65 u66 u67 u68 u69 u70 u71 u72 u73 u74 u75 u76 u77 u78 u79 u80 u81 u82 u83 u84 u85 u86 u87 u88 u89 u90 u91 u92 u93 u94 u95 u96 u97 u98 u99 u100 u101 u102 u103 u104 u105 u106 u107 u108 u109 u110 u111 u112 u113 u114 u115 u116 u117 u118 u119 u120 u121 u122 u123 u124 u125 u126 u127 u128 u129 u130 u131 u132 u133 u134 u135 u136 u137 u138 u139 u140 u141 u142 u143 u144 u145 u146 u147 u148 u149 u150 u151 u152 u153 u154 u155 u156 u157 u158 u159 u160 u161 u162 u163 u164 u165 u166 u167 u168 u169 u170 u171 u172 u173 u174 u175 u176 u177 u178 u179 u180 u181 u182 u183 u184 u185 u186 u187 u188 u189 u190 u191 u192 u193 u194 u195 u196 u197 u198 u199 u200 u201 u202 u203 u204 u205 u206 u207 u208 u209 u210 u211 u212 u213 u214 u215 u216 u217 u218 u219 u220 u221 u222 u223 u224 u225 u226 u227 u228 u229 u230 u231 u232 u233 u234 u235 u236 u237 u238 u239 u240 u241 u242 u243 u244 : Value) (i g L c fi : Nat) (fu : Int) (so : Bool) (s : Med) (Ra : List Ent) (a : Option Addr) (Q0 : Exit → Act → World → Prop) (wr : World)
    (hmost : n1 ≤ 9223372036854775807) (q2 : i < n1) (q3 : i < 40) (H1 : Hid (AsksIn w A1 n1 f)) (P1 : Hid (Play w g s Ra a c L i wr)) (HFI : Hid (s.firm = fi)) (HFU : Hid (fuL s = fu)) (HSO : Hid (s.off = so)) (fb0 : -1 ≤ fu) (fb1 : fu ≤ 9223372036854775807) (hk0 : 3 ≤ (f i).k) (hk1 : (f i).k ≤ 3) (hso : so = false) (hf0 : fu < 0) (hn0 : 0 ≤ (f i).n) (hn1 : (f i).n ≤ L) :
    Code.wp Try.prog playBody (Exit.then (fun a' w'' => PlayI w A1 n1 c1 c1_ c17_ c18_ c19_ c245_ a' w'' ∧ playMu a' w'' < playMu ⟨#[.slice A1 n1 c1, c1_, u2, .pointer (some ⟨g, 0, none⟩), .slice a L c, .int .i64 fi, .int .i64 fu, .bool so, .int .i64 i, u9, u10, u11, u12, u13, u14, u15, u16, c17_, c18_, c19_, u20, u21, u22, u23, u24, u25, u26, u27, u28, u29, u30, u31, u32, u33, u34, u35, u36, u37, u38, u39, u40, u41, u42, u43, u44, u45, u46, u47, u48, u49, u50, u51, u52, u53, u54, u55, u56, u57, u58, u59, u60, u61, u62, u63, u64, u65, u66, u67, u68, u69, u70, u71, u72, u73, u74, u75, u76, u77, u78, u79, u80, u81, u82, u83, u84, u85, u86, u87, u88, u89, u90, u91, u92, u93, u94, u95, u96, u97, u98, u99, u100, u101, u102, u103, u104, u105, u106, u107, u108, u109, u110, u111, u112, u113, u114, u115, u116, u117, u118, u119, u120, u121, u122, u123, u124, u125, u126, u127, u128, u129, u130, u131, u132, u133, u134, u135, u136, u137, u138, u139, u140, u141, u142, u143, u144, u145, u146, u147, u148, u149, u150, u151, u152, u153, u154, u155, u156, u157, u158, u159, u160, u161, u162, u163, u164, u165, u166, u167, u168, u169, u170, u171, u172, u173, u174, u175, u176, u177, u178, u179, u180, u181, u182, u183, u184, u185, u186, u187, u188, u189, u190, u191, u192, u193, u194, u195, u196, u197, u198, u199, u200, u201, u202, u203, u204, u205, u206, u207, u208, u209, u210, u211, u212, u213, u214, u215, u216, u217, u218, u219, u220, u221, u222, u223, u224, u225, u226, u227, u228, u229, u230, u231, u232, u233, u234, u235, u236, u237, u238, u239, u240, u241, u242, u243, u244, c245_], []⟩ wr) Q0) ⟨#[.slice A1 n1 c1, c1_, u2, .pointer (some ⟨g, 0, none⟩), .slice a L c, .int .i64 fi, .int .i64 fu, .bool so, .int .i64 i, u9, u10, u11, u12, u13, u14, u15, u16, c17_, c18_, c19_, u20, u21, u22, u23, u24, u25, u26, u27, u28, u29, u30, u31, u32, u33, u34, u35, u36, u37, u38, u39, u40, u41, u42, u43, u44, u45, u46, u47, u48, u49, u50, u51, u52, u53, u54, u55, u56, u57, u58, u59, u60, u61, u62, u63, u64, u65, u66, u67, u68, u69, u70, u71, u72, u73, u74, u75, u76, u77, u78, u79, u80, u81, u82, u83, u84, u85, u86, u87, u88, u89, u90, u91, u92, u93, u94, u95, u96, u97, u98, u99, u100, u101, u102, u103, u104, u105, u106, u107, u108, u109, u110, u111, u112, u113, u114, u115, u116, u117, u118, u119, u120, u121, u122, u123, u124, u125, u126, u127, u128, u129, u130, u131, u132, u133, u134, u135, u136, u137, u138, u139, u140, u141, u142, u143, u144, u145, u146, u147, u148, u149, u150, u151, u152, u153, u154, u155, u156, u157, u158, u159, u160, u161, u162, u163, u164, u165, u166, u167, u168, u169, u170, u171, u172, u173, u174, u175, u176, u177, u178, u179, u180, u181, u182, u183, u184, u185, u186, u187, u188, u189, u190, u191, u192, u193, u194, u195, u196, u197, u198, u199, u200, u201, u202, u203, u204, u205, u206, u207, u208, u209, u210, u211, u212, u213, u214, u215, u216, u217, u218, u219, u220, u221, u222, u223, u224, u225, u226, u227, u228, u229, u230, u231, u232, u233, u234, u235, u236, u237, u238, u239, u240, u241, u242, u243, u244, c245_], []⟩ wr := by
  conv => arg 2; whnf
  subst hso
  obtain ⟨ad, hA, hq⟩ := H1.out.at_ i q2
  have hcell := P1.out.med.bel.cell (World.block_lt_of_cell? w _ hq.c0) |>.trans hq.c0
  have hcell1 := P1.out.med.bel.cell (World.block_lt_of_cell? w _ hq.at1) |>.trans hq.at1
  have hcell2 := P1.out.med.bel.cell (World.block_lt_of_cell? w _ hq.at2) |>.trans hq.at2
  obtain ⟨⟨k, N, pa, pn, pc, pl⟩, hfq⟩ : ∃ q, f i = q := ⟨_, rfl⟩
  rw [hfq] at hcell hcell1 hcell2 hq hk0 hk1 hn0 hn1
  replace hk0 : 3 ≤ k := hk0
  replace hk1 : k ≤ 3 := hk1
  replace hn0 : 0 ≤ N := hn0
  replace hn1 : N ≤ L := hn1
  obtain ⟨_, _, _, hbi, k0, k1, nn0, nn1⟩ := hq
  simp only at hcell hcell1 hcell2 hbi k0 k1 nn0 nn1
  have HQ := Lib.hid hbi
  have hpc := hbi.le
  have hpcap := hbi.cap
  clear hbi hfq
  obtain rfl := hA
  go_upto_region 10 with fail
  have hqc : (#[.int .i64 k, .int .i64 N, .slice pa pn pc] : Array Value) = qcells k N pa pn pc := rfl
  rw [hqc]
  have hm2 : MedAt w [] (Ra ++ [(wr.heap.size, qcells k N pa pn pc, 43)]) g s (wr.alloc (.cells (qcells k N pa pn pc) 43)) := P1.out.med.addB (gn := wr.heap.size) rfl (qcells k N pa pn pc) 43
  have M2 := Lib.hid (show MedAt w [] ((wr.heap.size, qcells k N pa pn pc, 43) :: Ra) g s _ from hm2.permB (List.perm_append_singleton _ _))
  clear hm2 hcell hcell1 hcell2 hqc
  generalize hgq : wr.heap.size = gq at *
  generalize hw2 : wr.alloc (.cells (qcells k N pa pn pc) 43) = w2 at *
  have HR2 := Lib.hid P1.out.row
  have HOK := Lib.hid P1.out.ok
  have HLE := Lib.hid P1.out.len
  have hL := P1.out.most
  clear hw2 hgq P1
  obtain ⟨d0, _⟩ := M2.out.cellB (gn := gq) (cs := qcells k N pa pn pc) (t := 43) (by simp) 0 (v := .int .i64 k) rfl
  obtain ⟨d1, _⟩ := M2.out.cellB (gn := gq) (cs := qcells k N pa pn pc) (t := 43) (by simp) 1 (v := .int .i64 N) rfl
  obtain ⟨d2, _⟩ := M2.out.cellB (gn := gq) (cs := qcells k N pa pn pc) (t := 43) (by simp) 2 (v := .slice pa pn pc) rfl
  obtain ⟨m, hm⟩ : ∃ m, m = min pn 9 := ⟨_, rfl⟩
  have tm : min (pn : Int) 9 = (m : Int) := by omega
  have tm2 : (if (9 : Int) < (pn : Int) then (9 : Int) else (pn : Int)) = (m : Int) := by split <;> omega
  have i1 : (0 : Int) ≤ (m : Int) := by omega
  have i2 : (m : Int) ≤ (pc : Int) := by omega
  have hm9 : m ≤ 9 := by omega
  have hsb := (HQ.out.src.below M2.out.bel).cutHi (k := m) (by omega)
  have HSB := Lib.hid hsb
  have HBL : Hid (Byt (pl.take m)) := Lib.hid (fun x hx => HQ.out.byt x (List.mem_of_mem_take hx))
  generalize pl.take m = bl at *
  clear hm hsb HQ
  have dA : ∀ ob, (w2.alloc ob).cell? ⟨gq, 2, none⟩ = some (.slice pa pn pc) := fun ob => ((bel_alloc (Below.refl _ w2) ob).cell (World.block_lt_of_cell? w2 _ d2)).trans d2
  have HSE := Lib.hid ((Sts.nil w2).add (g := w2.heap.size) rfl #[] 5)
  obtain ⟨i0, hi0, hz, hs1, hs2⟩ := info_parts byte_info
  go_upto_region 11 with (at_builtin; go_must (refine row_append (by rfl) (.tmp 34) (.tmp 41) 23 rfl [] [] Try.underlying23 hi0 hz hs1 hs2 rfl (by omega) (Row.empty _ _ _) HSE.out rfl rfl (HSB.out.alloc _) (bs_one _) (by omega) (by omega) ?_); rintro R3 a3 c3 w3 hR3 hS3; simp only [Nat.zero_add, List.nil_append] at hR3 hS3 ⊢)
  have hm3 := M2.out.join (R' := R3 ++ []) (W' := w3) hS3
  have M3 := Lib.hid (show MedAt w [] ((gq, qcells k N pa pn pc, 43) :: (R3 ++ Ra)) g s w3 from hm3.permB (by simp))
  have HR3 := Lib.hid hR3
  clear hm3 hR3 hS3 HSE HSB M2 d0 d1 d2 dA tm tm2 i1 i2
  obtain ⟨d0, _⟩ := M3.out.cellB (gn := gq) (cs := qcells k N pa pn pc) (t := 43) (by simp) 0 (v := .int .i64 k) rfl
  obtain ⟨d1, _⟩ := M3.out.cellB (gn := gq) (cs := qcells k N pa pn pc) (t := 43) (by simp) 1 (v := .int .i64 N) rfl
  have e1 : (k == 1) = false := by rw [beq_eq_false_iff_ne]; omega
  have e2 : (k == 2) = false := by rw [beq_eq_false_iff_ne]; omega
  have e3 : (k == 3) = true := by rw [beq_iff_eq]; omega
  have e4 : (k == 4) = false := by rw [beq_eq_false_iff_ne]; omega
  have e5 : (k == 5) = false := by rw [beq_eq_false_iff_ne]; omega
  have e6 : (k == 6) = false := by rw [beq_eq_false_iff_ne]; omega
  have e7 : (k == 7) = false := by rw [beq_eq_false_iff_ne]; omega
  have e8 : decide (1 ≤ k) = true := decide_eq_true (by omega)
  have e9 : decide (k ≤ 3) = true := decide_eq_true (by omega)
  have b1 : (fu == 0) = false := by rw [beq_eq_false_iff_ne]; omega
  have b2 : decide (0 < fu) = false := decide_eq_false (by omega)
  have b3 : decide (N < 0) = false := decide_eq_false (by omega)
  have b4 : decide ((L : Int) < N) = false := decide_eq_false (by omega)
  have X : PwGoes s false fu := by have := goes_neg HOK.out HSO.out (by rw [HFU.out]; omega); rwa [HFU.out] at this
  obtain ⟨q, rfl⟩ := Int.eq_ofNat_of_zero_le hn0
  have hqL : q ≤ L := by omega
  have b5 : decide (L < q) = false := decide_eq_false (by omega)
  obtain ⟨s', ea, l1, l2, l3, l4⟩ := cut_on (n := q) (by rw [HLE.out]; omega) X
  have hok : s'.Ok := by have := HOK.out.cut q; rw [ea] at this; exact this
  clear X
  have EA := Lib.hid ea; have L1' := Lib.hid l1; have L2' := Lib.hid l2; have L3' := Lib.hid l3; have L4' := Lib.hid l4
  clear l1 l2 l3 l4 ea
  have HOK' := Lib.hid hok
  clear hok
  go_wp2_with fail
  refine (cut_is (q : Int) M3.out HOK.out EA.out).mono ?_
  rintro e w4 ⟨rfl, hm⟩
  have M4 := Lib.hid hm
  clear hm M3
  clear d0 d1
  have hsa := (HR2.out.srcB M4.out (fun x hx => by simp [hx])).cutHi hqL
  have hcc := HR2.out.le
  have HSA := Lib.hid hsa
  clear hsa
  have i1 : (0 : Int) ≤ (q : Int) := by omega
  have i2 : (q : Int) ≤ (c : Int) := by omega
  obtain ⟨d1, _⟩ := M4.out.cellB (gn := gq) (cs := qcells k (q : Int) pa pn pc) (t := 43) (by simp) 1 (v := .int .i64 (q : Int)) rfl
  have dA : ∀ ob, (w4.alloc ob).cell? ⟨gq, 1, none⟩ = some (.int .i64 (q : Int)) := fun ob => ((bel_alloc (Below.refl _ w4) ob).cell (World.block_lt_of_cell? w4 _ d1)).trans d1
  have HSE := Lib.hid ((Sts.nil w4).add (g := w4.heap.size) rfl #[] 5)
  go_upto_region 37 with (at_builtin; (refine row_append (by rfl) (.tmp 121) (.tmp 125) 23 rfl [] [] Try.underlying23 hi0 hz hs1 hs2 rfl (by omega) (Row.empty _ _ _) HSE.out rfl rfl (HSA.out.alloc _) (bs_one _) (by omega) (by omega) ?_); rintro R5 a5 c5 w5 hR5 hS5; simp only [Nat.zero_add, List.nil_append] at hR5 hS5 ⊢)
  have hm5 := M4.out.join (R' := R5 ++ []) (W' := w5) hS5
  rw [List.append_nil] at hm5
  have M3 := Lib.hid hm5
  have HR2' := Lib.hid (show Row R5 5 1 a5 (q) c5 (bs s'.b) by rw [L4'.out]; simpa using hR5)
  have HLE' := Lib.hid (show s'.b.length = q by rw [L4'.out, List.length_take, HLE.out]; omega)
  clear hm5 hR5 hS5 M4 HSE HSA
  clear d1 dA
  obtain ⟨d1, _⟩ := M3.out.cellB (gn := gq) (cs := qcells k (q : Int) pa pn pc) (t := 43) (by simp) 1 (v := .int .i64 (q : Int)) rfl
  go_wp2_with fail
  clear HOK HR2 HLE HFI HFU HSO EA L4'
  have HOK := HOK'; have HR2 := HR2'; have HLE := HLE'; have HFI := L3'; have HFU := L2'; have HSO := L1'
  clear HOK' HR2' HLE' L3' L2' L1'
  refine (bytes_is M3.out HOK.out (l := s'.b) (by unfold Med.bytes; rw [HSO.out]; rfl)).mono ?_
  rintro e w5 ⟨a5, m5, c5, rfl, hP, hm, hb, hl, hc1, hc2⟩
  have hl5 : q = m5 := (hl.trans HLE.out).symm
  subst hl5
  have hR := HR2.out.srcB hm (fun x hx => by simp [hx])
  have M5 := Lib.hid hm; have S5 := Lib.hid hP; have S6 := Lib.hid hR
  clear hP hm hb hl hc1 hc2 hR M3
  go_wp2_with fail
  refine (same_yes s'.b s'.b S5.out S6.out (by omega) (by omega) rfl).mono ?_
  rintro e w6 ⟨rfl, n6, hw6⟩
  have M6 := Lib.hid (hw6 ▸ M5.out.drewN n6 : MedAt w [] _ g s' w6)
  clear hw6 M5 S5 S6
  go_wp2_with fail
  refine (firm_is M6.out (n := (q : Int)) (by rw [HFI.out])).mono ?_
  rintro e w7 ⟨rfl, rfl⟩
  have f1 : ((q : Int) != (q : Int)) = false := by simp
  go_wp2_with fail
  refine (off_is M6.out HSO.out).mono ?_
  rintro e w8 ⟨rfl, rfl⟩
  go_wp2_with fail
  refine ⟨?_, by simp [playMu, intOf]; omega⟩
  unfold PlayI
  refine ⟨_, _, _, _, _, _, _, _, _, _, _, _, _, _, _, _, _, _, _, _, _, _, _, _, _, _, _, _, _, _, _, _, _, _, _, _, _, _, _, _, _, _, _, _, _, _, _, _, _, _, _, _, _, _, _, _, _, _, _, _, _, _, _, _, _, _, _, _, _, _, _, _, _, _, _, _, _, _, _, _, _, _, _, _, _, _, _, _, _, _, _, _, _, _, _, _, _, _, _, _, _, _, _, _, _, _, _, _, _, _, _, _, _, _, _, _, _, _, _, _, _, _, _, _, _, _, _, _, _, _, _, _, _, _, _, _, _, _, _, _, _, _, _, _, _, _, _, _, _, _, _, _, _, _, _, _, _, _, _, _, _, _, _, _, _, _, _, _, _, _, _, _, _, _, _, _, _, _, _, _, _, _, _, _, _, _, _, _, _, _, _, _, _, _, _, _, _, _, _, _, _, _, _, _, _, _, _, _, _, _, _, _, _, _, _, _, _, _, _, _, _, _, _, _, _, _, _, _, _, _, _, _, _, _, _, _, _, _, _, _, _, _, ⟨i + 1, s', R5, by simp, by omega, HFI.out, HFU.out, HSO.out, Lib.hid ⟨M6.out.subB (List.sublist_append_left _ _), HR2.out, HOK.out, HLE.out, by omega⟩⟩, rfl⟩

set_option maxHeartbeats 16000000 in
set_option maxRecDepth 1000000 in
theorem play_cutLo (w : World) (A1 : Option Addr) (n1 c1 : Nat) (f : Nat → Ask) (c1_ c17_ c18_ c19_ c245_ : Value) (u2 u9 u10 u11 u12 u13 u14 u15 u16 u20 u21 u22 u23 u24 u25 u26 u27 u28 u29 u30 u31 u32 u33 u34 u35 u36 u37 u38 u39 u40 u41 u42 u43 u44 u45 u46 u47 u48 u49 u50 u51 u52 u53 u54 u55 u56 u57 u58 u59 u60 u61 u62 u63 u64 u65 u66 u67 u68 u69 u70 u71 u72 u73 u74 u75 u76 u77 u78 u79 u80 u81 u82 u83 u84 u85 u86 u87 u88 u89 u90 u91 u92 u93 u94 u95 u96 u97 u98 u99 u100 u101 u102 u103 u104 u105 u106 u107 u108 u109 u110 u111 u112 u113 u114 u115 u116 u117 u118 u119 u120 u121 u122 u123 u124 u125 u126 u127 u128 u129 u130 u131 u132 u133 u134 u135 u136 u137 u138 u139 u140 u141 u142 u143 u144 u145 u146 u147 u148 u149 u150 u151 u152 u153 u154 u155 u156 u157 u158 u159 u160 u161 u162 u163 u164 u165 u166 u167 u168 u169 u170 u171 u172 u173 u174 u175 u176 u177 u178 u179 u180 u181 u182 u183 u184 u185 u186 u187 u188 u189 u190 u191 u192 u193 u194 u195 u196 u197 u198 u199 u200 u201 u202 u203 u204 u205 u206 u207 u208 u209 u210 u211 u212 u213 u214 u215 u216 u217 u218 u219 u220 u221 u222 u223 u224 u225 u226 u227 u228 u229 u230 u231 u232 u233 u234 u235 u236 u237 u238 u239 u240 u241 u242 u243 u244 : Value) (i g L c fi : Nat) (fu : Int) (so : Bool) (s : Med) (Ra : List Ent) (a : Option Addr) (Q0 : Exit → Act → World → Prop) (wr : World)
    (hmost : n1 ≤ 9223372036854775807) (q2 : i < n1) (q3 : i < 40) (H1 : Hid (AsksIn w A1 n1 f)) (P1 : Hid (Play w g s Ra a c L i wr)) (HFI : Hid (s.firm = fi)) (HFU : Hid (fuL s = fu)) (HSO : Hid (s.off = so)) (fb0 : -1 ≤ fu) (fb1 : fu ≤ 9223372036854775807) (hk0 : 3 ≤ (f i).k) (hk1 : (f i).k ≤ 3) (hn0 : (f i).n < 0) :
    Code.wp Try.prog playBody (Exit.then (fun a' w'' => PlayI w A1 n1 c1 c1_ c17_ c18_ c19_ c245_ a' w'' ∧ playMu a' w'' < playMu ⟨#[.slice A1 n1 c1, c1_, u2, .pointer (some ⟨g, 0, none⟩), .slice a L c, .int .i64 fi, .int .i64 fu, .bool so, .int .i64 i, u9, u10, u11, u12, u13, u14, u15, u16, c17_, c18_, c19_, u20, u21, u22, u23, u24, u25, u26, u27, u28, u29, u30, u31, u32, u33, u34, u35, u36, u37, u38, u39, u40, u41, u42, u43, u44, u45, u46, u47, u48, u49, u50, u51, u52, u53, u54, u55, u56, u57, u58, u59, u60, u61, u62, u63, u64, u65, u66, u67, u68, u69, u70, u71, u72, u73, u74, u75, u76, u77, u78, u79, u80, u81, u82, u83, u84, u85, u86, u87, u88, u89, u90, u91, u92, u93, u94, u95, u96, u97, u98, u99, u100, u101, u102, u103, u104, u105, u106, u107, u108, u109, u110, u111, u112, u113, u114, u115, u116, u117, u118, u119, u120, u121, u122, u123, u124, u125, u126, u127, u128, u129, u130, u131, u132, u133, u134, u135, u136, u137, u138, u139, u140, u141, u142, u143, u144, u145, u146, u147, u148, u149, u150, u151, u152, u153, u154, u155, u156, u157, u158, u159, u160, u161, u162, u163, u164, u165, u166, u167, u168, u169, u170, u171, u172, u173, u174, u175, u176, u177, u178, u179, u180, u181, u182, u183, u184, u185, u186, u187, u188, u189, u190, u191, u192, u193, u194, u195, u196, u197, u198, u199, u200, u201, u202, u203, u204, u205, u206, u207, u208, u209, u210, u211, u212, u213, u214, u215, u216, u217, u218, u219, u220, u221, u222, u223, u224, u225, u226, u227, u228, u229, u230, u231, u232, u233, u234, u235, u236, u237, u238, u239, u240, u241, u242, u243, u244, c245_], []⟩ wr) Q0) ⟨#[.slice A1 n1 c1, c1_, u2, .pointer (some ⟨g, 0, none⟩), .slice a L c, .int .i64 fi, .int .i64 fu, .bool so, .int .i64 i, u9, u10, u11, u12, u13, u14, u15, u16, c17_, c18_, c19_, u20, u21, u22, u23, u24, u25, u26, u27, u28, u29, u30, u31, u32, u33, u34, u35, u36, u37, u38, u39, u40, u41, u42, u43, u44, u45, u46, u47, u48, u49, u50, u51, u52, u53, u54, u55, u56, u57, u58, u59, u60, u61, u62, u63, u64, u65, u66, u67, u68, u69, u70, u71, u72, u73, u74, u75, u76, u77, u78, u79, u80, u81, u82, u83, u84, u85, u86, u87, u88, u89, u90, u91, u92, u93, u94, u95, u96, u97, u98, u99, u100, u101, u102, u103, u104, u105, u106, u107, u108, u109, u110, u111, u112, u113, u114, u115, u116, u117, u118, u119, u120, u121, u122, u123, u124, u125, u126, u127, u128, u129, u130, u131, u132, u133, u134, u135, u136, u137, u138, u139, u140, u141, u142, u143, u144, u145, u146, u147, u148, u149, u150, u151, u152, u153, u154, u155, u156, u157, u158, u159, u160, u161, u162, u163, u164, u165, u166, u167, u168, u169, u170, u171, u172, u173, u174, u175, u176, u177, u178, u179, u180, u181, u182, u183, u184, u185, u186, u187, u188, u189, u190, u191, u192, u193, u194, u195, u196, u197, u198, u199, u200, u201, u202, u203, u204, u205, u206, u207, u208, u209, u210, u211, u212, u213, u214, u215, u216, u217, u218, u219, u220, u221, u222, u223, u224, u225, u226, u227, u228, u229, u230, u231, u232, u233, u234, u235, u236, u237, u238, u239, u240, u241, u242, u243, u244, c245_], []⟩ wr := by
  conv => arg 2; whnf
  obtain ⟨ad, hA, hq⟩ := H1.out.at_ i q2
  have hcell := P1.out.med.bel.cell (World.block_lt_of_cell? w _ hq.c0) |>.trans hq.c0
  have hcell1 := P1.out.med.bel.cell (World.block_lt_of_cell? w _ hq.at1) |>.trans hq.at1
  have hcell2 := P1.out.med.bel.cell (World.block_lt_of_cell? w _ hq.at2) |>.trans hq.at2
  obtain ⟨⟨k, N, pa, pn, pc, pl⟩, hfq⟩ : ∃ q, f i = q := ⟨_, rfl⟩
  rw [hfq] at hcell hcell1 hcell2 hq hk0 hk1 hn0
  replace hk0 : 3 ≤ k := hk0
  replace hk1 : k ≤ 3 := hk1
  replace hn0 : N < 0 := hn0
  obtain ⟨_, _, _, hbi, k0, k1, nn0, nn1⟩ := hq
  simp only at hcell hcell1 hcell2 hbi k0 k1 nn0 nn1
  have HQ := Lib.hid hbi
  have hpc := hbi.le
  have hpcap := hbi.cap
  clear hbi hfq
  obtain rfl := hA
  go_upto_region 10 with fail
  have hqc : (#[.int .i64 k, .int .i64 N, .slice pa pn pc] : Array Value) = qcells k N pa pn pc := rfl
  rw [hqc]
  have hm2 : MedAt w [] (Ra ++ [(wr.heap.size, qcells k N pa pn pc, 43)]) g s (wr.alloc (.cells (qcells k N pa pn pc) 43)) := P1.out.med.addB (gn := wr.heap.size) rfl (qcells k N pa pn pc) 43
  have M2 := Lib.hid (show MedAt w [] ((wr.heap.size, qcells k N pa pn pc, 43) :: Ra) g s _ from hm2.permB (List.perm_append_singleton _ _))
  clear hm2 hcell hcell1 hcell2 hqc
  generalize hgq : wr.heap.size = gq at *
  generalize hw2 : wr.alloc (.cells (qcells k N pa pn pc) 43) = w2 at *
  have HR2 := Lib.hid P1.out.row
  have HOK := Lib.hid P1.out.ok
  have HLE := Lib.hid P1.out.len
  have hL := P1.out.most
  clear hw2 hgq P1
  obtain ⟨d0, _⟩ := M2.out.cellB (gn := gq) (cs := qcells k N pa pn pc) (t := 43) (by simp) 0 (v := .int .i64 k) rfl
  obtain ⟨d1, _⟩ := M2.out.cellB (gn := gq) (cs := qcells k N pa pn pc) (t := 43) (by simp) 1 (v := .int .i64 N) rfl
  obtain ⟨d2, _⟩ := M2.out.cellB (gn := gq) (cs := qcells k N pa pn pc) (t := 43) (by simp) 2 (v := .slice pa pn pc) rfl
  obtain ⟨m, hm⟩ : ∃ m, m = min pn 9 := ⟨_, rfl⟩
  have tm : min (pn : Int) 9 = (m : Int) := by omega
  have tm2 : (if (9 : Int) < (pn : Int) then (9 : Int) else (pn : Int)) = (m : Int) := by split <;> omega
  have i1 : (0 : Int) ≤ (m : Int) := by omega
  have i2 : (m : Int) ≤ (pc : Int) := by omega
  have hm9 : m ≤ 9 := by omega
  have hsb := (HQ.out.src.below M2.out.bel).cutHi (k := m) (by omega)
  have HSB := Lib.hid hsb
  have HBL : Hid (Byt (pl.take m)) := Lib.hid (fun x hx => HQ.out.byt x (List.mem_of_mem_take hx))
  generalize pl.take m = bl at *
  clear hm hsb HQ
  have dA : ∀ ob, (w2.alloc ob).cell? ⟨gq, 2, none⟩ = some (.slice pa pn pc) := fun ob => ((bel_alloc (Below.refl _ w2) ob).cell (World.block_lt_of_cell? w2 _ d2)).trans d2
  have HSE := Lib.hid ((Sts.nil w2).add (g := w2.heap.size) rfl #[] 5)
  obtain ⟨i0, hi0, hz, hs1, hs2⟩ := info_parts byte_info
  go_upto_region 11 with (at_builtin; go_must (refine row_append (by rfl) (.tmp 34) (.tmp 41) 23 rfl [] [] Try.underlying23 hi0 hz hs1 hs2 rfl (by omega) (Row.empty _ _ _) HSE.out rfl rfl (HSB.out.alloc _) (bs_one _) (by omega) (by omega) ?_); rintro R3 a3 c3 w3 hR3 hS3; simp only [Nat.zero_add, List.nil_append] at hR3 hS3 ⊢)
  have hm3 := M2.out.join (R' := R3 ++ []) (W' := w3) hS3
  have M3 := Lib.hid (show MedAt w [] ((gq, qcells k N pa pn pc, 43) :: (R3 ++ Ra)) g s w3 from hm3.permB (by simp))
  have HR3 := Lib.hid hR3
  clear hm3 hR3 hS3 HSE HSB M2 d0 d1 d2 dA tm tm2 i1 i2
  obtain ⟨d0, _⟩ := M3.out.cellB (gn := gq) (cs := qcells k N pa pn pc) (t := 43) (by simp) 0 (v := .int .i64 k) rfl
  obtain ⟨d1, _⟩ := M3.out.cellB (gn := gq) (cs := qcells k N pa pn pc) (t := 43) (by simp) 1 (v := .int .i64 N) rfl
  have e1 : (k == 1) = false := by rw [beq_eq_false_iff_ne]; omega
  have e2 : (k == 2) = false := by rw [beq_eq_false_iff_ne]; omega
  have e3 : (k == 3) = true := by rw [beq_iff_eq]; omega
  have e4 : (k == 4) = false := by rw [beq_eq_false_iff_ne]; omega
  have e5 : (k == 5) = false := by rw [beq_eq_false_iff_ne]; omega
  have e6 : (k == 6) = false := by rw [beq_eq_false_iff_ne]; omega
  have e7 : (k == 7) = false := by rw [beq_eq_false_iff_ne]; omega
  have e8 : decide (1 ≤ k) = true := decide_eq_true (by omega)
  have e9 : decide (k ≤ 3) = true := decide_eq_true (by omega)
  have b3 : decide (N < 0) = true := decide_eq_true (by omega)
  cases so with
  | true =>
    go_wp2_with fail
    refine (cut_is N (v := 1) (s' := s) M3.out HOK.out (cut_bad (by rw [HLE.out]; omega))).mono ?_
    rintro e w4 ⟨rfl, hm⟩
    have M4 := Lib.hid hm
    clear hm M3
    have M3 := M4
    clear M4
    go_wp2_with fail
    refine (bytes_is M3.out HOK.out (l := []) (by unfold Med.bytes; rw [HSO.out]; rfl)).mono ?_
    rintro e w5 ⟨a5, m5, c5, rfl, hP, hm, hb, hl, hc1, hc2⟩
    obtain rfl : m5 = 0 := hl
    have M6 := Lib.hid hm
    clear hP hm hb hc1 hc2 M3
    go_wp2_with fail
    refine (firm_is M6.out (n := (fi : Int)) (by rw [HFI.out])).mono ?_
    rintro e w7 ⟨rfl, rfl⟩
    have f1 : ((fi : Int) != (fi : Int)) = false := by simp
    go_wp2_with fail
    refine (off_is M6.out HSO.out).mono ?_
    rintro e w8 ⟨rfl, rfl⟩
    go_wp2_with fail
    refine ⟨?_, by simp [playMu, intOf]; omega⟩
    unfold PlayI
    refine ⟨_, _, _, _, _, _, _, _, _, _, _, _, _, _, _, _, _, _, _, _, _, _, _, _, _, _, _, _, _, _, _, _, _, _, _, _, _, _, _, _, _, _, _, _, _, _, _, _, _, _, _, _, _, _, _, _, _, _, _, _, _, _, _, _, _, _, _, _, _, _, _, _, _, _, _, _, _, _, _, _, _, _, _, _, _, _, _, _, _, _, _, _, _, _, _, _, _, _, _, _, _, _, _, _, _, _, _, _, _, _, _, _, _, _, _, _, _, _, _, _, _, _, _, _, _, _, _, _, _, _, _, _, _, _, _, _, _, _, _, _, _, _, _, _, _, _, _, _, _, _, _, _, _, _, _, _, _, _, _, _, _, _, _, _, _, _, _, _, _, _, _, _, _, _, _, _, _, _, _, _, _, _, _, _, _, _, _, _, _, _, _, _, _, _, _, _, _, _, _, _, _, _, _, _, _, _, _, _, _, _, _, _, _, _, _, _, _, _, _, _, _, _, _, _, _, _, _, _, _, _, _, _, _, _, _, _, _, _, _, _, _, _, ⟨i + 1, s, Ra, by simp, by omega, HFI.out, HFU.out, HSO.out, Lib.hid ⟨M6.out.subB (List.Sublist.cons _ (List.sublist_append_right _ _)), HR2.out, HOK.out, HLE.out, by omega⟩⟩, rfl⟩

  | false =>
    go_wp2_with fail
    refine (cut_is N (v := 1) (s' := s) M3.out HOK.out (cut_bad (by rw [HLE.out]; omega))).mono ?_
    rintro e w4 ⟨rfl, hm⟩
    have M4 := Lib.hid hm
    clear hm M3
    have M3 := M4
    clear M4
    go_wp2_with fail
    refine (bytes_is M3.out HOK.out (l := s.b) (by unfold Med.bytes; rw [HSO.out]; rfl)).mono ?_
    rintro e w5 ⟨a5, m5, c5, rfl, hP, hm, hb, hl, hc1, hc2⟩
    have hl5 : L = m5 := (hl.trans HLE.out).symm
    subst hl5
    have hR := HR2.out.srcB hm (fun x hx => by simp [hx])
    have M5 := Lib.hid hm; have S5 := Lib.hid hP; have S6 := Lib.hid hR
    clear hP hm hb hl hc1 hc2 hR M3
    go_wp2_with fail
    refine (same_yes s.b s.b S5.out S6.out (by omega) (by omega) rfl).mono ?_
    rintro e w6 ⟨rfl, n6, hw6⟩
    have M6 := Lib.hid (hw6 ▸ M5.out.drewN n6 : MedAt w [] _ g s w6)
    clear hw6 M5 S5 S6
    go_wp2_with fail
    refine (firm_is M6.out (n := (fi : Int)) (by rw [HFI.out])).mono ?_
    rintro e w7 ⟨rfl, rfl⟩
    have f1 : ((fi : Int) != (fi : Int)) = false := by simp
    go_wp2_with fail
    refine (off_is M6.out HSO.out).mono ?_
    rintro e w8 ⟨rfl, rfl⟩
    go_wp2_with fail
    refine ⟨?_, by simp [playMu, intOf]; omega⟩
    unfold PlayI
    refine ⟨_, _, _, _, _, _, _, _, _, _, _, _, _, _, _, _, _, _, _, _, _, _, _, _, _, _, _, _, _, _, _, _, _, _, _, _, _, _, _, _, _, _, _, _, _, _, _, _, _, _, _, _, _, _, _, _, _, _, _, _, _, _, _, _, _, _, _, _, _, _, _, _, _, _, _, _, _, _, _, _, _, _, _, _, _, _, _, _, _, _, _, _, _, _, _, _, _, _, _, _, _, _, _, _, _, _, _, _, _, _, _, _, _, _, _, _, _, _, _, _, _, _, _, _, _, _, _, _, _, _, _, _, _, _, _, _, _, _, _, _, _, _, _, _, _, _, _, _, _, _, _, _, _, _, _, _, _, _, _, _, _, _, _, _, _, _, _, _, _, _, _, _, _, _, _, _, _, _, _, _, _, _, _, _, _, _, _, _, _, _, _, _, _, _, _, _, _, _, _, _, _, _, _, _, _, _, _, _, _, _, _, _, _, _, _, _, _, _, _, _, _, _, _, _, _, _, _, _, _, _, _, _, _, _, _, _, _, _, _, _, _, _, ⟨i + 1, s, Ra, by simp, by omega, HFI.out, HFU.out, HSO.out, Lib.hid ⟨M6.out.subB (List.Sublist.cons _ (List.sublist_append_right _ _)), HR2.out, HOK.out, HLE.out, by omega⟩⟩, rfl⟩


set_option maxHeartbeats 16000000 in
set_option maxRecDepth 1000000 in
theorem play_cutHi (w : World) (A1 : Option Addr) (n1 c1 : Nat) (f : Nat → Ask) (c1_ c17_ c18_ c19_ c245_ : Value) (u2 u9 u10 u11 u12 u13 u14 u15 u16 u20 u21 u22 u23 u24 u25 u26 u27 u28 u29 u30 u31 u32 u33 u34 u35 u36 u37 u38 u39 u40 u41 u42 u43 u44 u45 u46 u47 u48 u49 u50 u51 u52 u53 u54 u55 u56 u57 u58 u59 u60 u61 u62 u63 u64 u65 u66 u67 u68 u69 u70 u71 u72 u73 u74 u75 u76 u77 u78 u79 u80 u81 u82 u83 u84 u85 u86 u87 u88 u89 u90 u91 u92 u93 u94 u95 u96 u97 u98 u99 u100 u101 u102 u103 u104 u105 u106 u107 u108 u109 u110 u111 u112 u113 u114 u115 u116 u117 u118 u119 u120 u121 u122 u123 u124 u125 u126 u127 u128 u129 u130 u131 u132 u133 u134 u135 u136 u137 u138 u139 u140 u141 u142 u143 u144 u145 u146 u147 u148 u149 u150 u151 u152 u153 u154 u155 u156 u157 u158 u159 u160 u161 u162 u163 u164 u165 u166 u167 u168 u169 u170 u171 u172 u173 u174 u175 u176 u177 u178 u179 u180 u181 u182 u183 u184 u185 u186 u187 u188 u189 u190 u191 u192 u193 u194 u195 u196 u197 u198 u199 u200 u201 u202 u203 u204 u205 u206 u207 u208 u209 u210 u211 u212 u213 u214 u215 u216 u217 u218 u219 u220 u221 u222 u223 u224 u225 u226 u227 u228 u229 u230 u231 u232 u233 u234 u235 u236 u237 u238 u239 u240 u241 u242 u243 u244 : Value) (i g L c fi : Nat) (fu : Int) (so : Bool) (s : Med) (Ra : List Ent) (a : Option Addr) (Q0 : Exit → Act → World → Prop) (wr : World)
    (hmost : n1 ≤ 9223372036854775807) (q2 : i < n1) (q3 : i < 40) (H1 : Hid (AsksIn w A1 n1 f)) (P1 : Hid (Play w g s Ra a c L i wr)) (HFI : Hid (s.firm = fi)) (HFU : Hid (fuL s = fu)) (HSO : Hid (s.off = so)) (fb0 : -1 ≤ fu) (fb1 : fu ≤ 9223372036854775807) (hk0 : 3 ≤ (f i).k) (hk1 : (f i).k ≤ 3) (hn0 : 0 ≤ (f i).n) (hn1 : (L : Int) < (f i).n) :
    Code.wp Try.prog playBody (Exit.then (fun a' w'' => PlayI w A1 n1 c1 c1_ c17_ c18_ c19_ c245_ a' w'' ∧ playMu a' w'' < playMu ⟨#[.slice A1 n1 c1, c1_, u2, .pointer (some ⟨g, 0, none⟩), .slice a L c, .int .i64 fi, .int .i64 fu, .bool so, .int .i64 i, u9, u10, u11, u12, u13, u14, u15, u16, c17_, c18_, c19_, u20, u21, u22, u23, u24, u25, u26, u27, u28, u29, u30, u31, u32, u33, u34, u35, u36, u37, u38, u39, u40, u41, u42, u43, u44, u45, u46, u47, u48, u49, u50, u51, u52, u53, u54, u55, u56, u57, u58, u59, u60, u61, u62, u63, u64, u65, u66, u67, u68, u69, u70, u71, u72, u73, u74, u75, u76, u77, u78, u79, u80, u81, u82, u83, u84, u85, u86, u87, u88, u89, u90, u91, u92, u93, u94, u95, u96, u97, u98, u99, u100, u101, u102, u103, u104, u105, u106, u107, u108, u109, u110, u111, u112, u113, u114, u115, u116, u117, u118, u119, u120, u121, u122, u123, u124, u125, u126, u127, u128, u129, u130, u131, u132, u133, u134, u135, u136, u137, u138, u139, u140, u141, u142, u143, u144, u145, u146, u147, u148, u149, u150, u151, u152, u153, u154, u155, u156, u157, u158, u159, u160, u161, u162, u163, u164, u165, u166, u167, u168, u169, u170, u171, u172, u173, u174, u175, u176, u177, u178, u179, u180, u181, u182, u183, u184, u185, u186, u187, u188, u189, u190, u191, u192, u193, u194, u195, u196, u197, u198, u199, u200, u201, u202, u203, u204, u205, u206, u207, u208, u209, u210, u211, u212, u213, u214, u215, u216, u217, u218, u219, u220, u221, u222, u223, u224, u225, u226, u227, u228, u229, u230, u231, u232, u233, u234, u235, u236, u237, u238, u239, u240, u241, u242, u243, u244, c245_], []⟩ wr) Q0) ⟨#[.slice A1 n1 c1, c1_, u2, .pointer (some ⟨g, 0, none⟩), .slice a L c, .int .i64 fi, .int .i64 fu, .bool so, .int .i64 i, u9, u10, u11, u12, u13, u14, u15, u16, c17_, c18_, c19_, u20, u21, u22, u23, u24, u25, u26, u27, u28, u29, u30, u31, u32, u33, u34, u35, u36, u37, u38, u39, u40, u41, u42, u43, u44, u45, u46, u47, u48, u49, u50, u51, u52, u53, u54, u55, u56, u57, u58, u59, u60, u61, u62, u63, u64, u65, u66, u67, u68, u69, u70, u71, u72, u73, u74, u75, u76, u77, u78, u79, u80, u81, u82, u83, u84, u85, u86, u87, u88, u89, u90, u91, u92, u93, u94, u95, u96, u97, u98, u99, u100, u101, u102, u103, u104, u105, u106, u107, u108, u109, u110, u111, u112, u113, u114, u115, u116, u117, u118, u119, u120, u121, u122, u123, u124, u125, u126, u127, u128, u129, u130, u131, u132, u133, u134, u135, u136, u137, u138, u139, u140, u141, u142, u143, u144, u145, u146, u147, u148, u149, u150, u151, u152, u153, u154, u155, u156, u157, u158, u159, u160, u161, u162, u163, u164, u165, u166, u167, u168, u169, u170, u171, u172, u173, u174, u175, u176, u177, u178, u179, u180, u181, u182, u183, u184, u185, u186, u187, u188, u189, u190, u191, u192, u193, u194, u195, u196, u197, u198, u199, u200, u201, u202, u203, u204, u205, u206, u207, u208, u209, u210, u211, u212, u213, u214, u215, u216, u217, u218, u219, u220, u221, u222, u223, u224, u225, u226, u227, u228, u229, u230, u231, u232, u233, u234, u235, u236, u237, u238, u239, u240, u241, u242, u243, u244, c245_], []⟩ wr := by
  conv => arg 2; whnf
  obtain ⟨ad, hA, hq⟩ := H1.out.at_ i q2
  have hcell := P1.out.med.bel.cell (World.block_lt_of_cell? w _ hq.c0) |>.trans hq.c0
  have hcell1 := P1.out.med.bel.cell (World.block_lt_of_cell? w _ hq.at1) |>.trans hq.at1
  have hcell2 := P1.out.med.bel.cell (World.block_lt_of_cell? w _ hq.at2) |>.trans hq.at2
  obtain ⟨⟨k, N, pa, pn, pc, pl⟩, hfq⟩ : ∃ q, f i = q := ⟨_, rfl⟩
  rw [hfq] at hcell hcell1 hcell2 hq hk0 hk1 hn0 hn1
  replace hk0 : 3 ≤ k := hk0
  replace hk1 : k ≤ 3 := hk1
  replace hn0 : 0 ≤ N := hn0
  replace hn1 : (L : Int) < N := hn1
  obtain ⟨_, _, _, hbi, k0, k1, nn0, nn1⟩ := hq
  simp only at hcell hcell1 hcell2 hbi k0 k1 nn0 nn1
  have HQ := Lib.hid hbi
  have hpc := hbi.le
  have hpcap := hbi.cap
  clear hbi hfq
  obtain rfl := hA
  go_upto_region 10 with fail
  have hqc : (#[.int .i64 k, .int .i64 N, .slice pa pn pc] : Array Value) = qcells k N pa pn pc := rfl
  rw [hqc]
  have hm2 : MedAt w [] (Ra ++ [(wr.heap.size, qcells k N pa pn pc, 43)]) g s (wr.alloc (.cells (qcells k N pa pn pc) 43)) := P1.out.med.addB (gn := wr.heap.size) rfl (qcells k N pa pn pc) 43
  have M2 := Lib.hid (show MedAt w [] ((wr.heap.size, qcells k N pa pn pc, 43) :: Ra) g s _ from hm2.permB (List.perm_append_singleton _ _))
  clear hm2 hcell hcell1 hcell2 hqc
  generalize hgq : wr.heap.size = gq at *
  generalize hw2 : wr.alloc (.cells (qcells k N pa pn pc) 43) = w2 at *
  have HR2 := Lib.hid P1.out.row
  have HOK := Lib.hid P1.out.ok
  have HLE := Lib.hid P1.out.len
  have hL := P1.out.most
  clear hw2 hgq P1
  obtain ⟨d0, _⟩ := M2.out.cellB (gn := gq) (cs := qcells k N pa pn pc) (t := 43) (by simp) 0 (v := .int .i64 k) rfl
  obtain ⟨d1, _⟩ := M2.out.cellB (gn := gq) (cs := qcells k N pa pn pc) (t := 43) (by simp) 1 (v := .int .i64 N) rfl
  obtain ⟨d2, _⟩ := M2.out.cellB (gn := gq) (cs := qcells k N pa pn pc) (t := 43) (by simp) 2 (v := .slice pa pn pc) rfl
  obtain ⟨m, hm⟩ : ∃ m, m = min pn 9 := ⟨_, rfl⟩
  have tm : min (pn : Int) 9 = (m : Int) := by omega
  have tm2 : (if (9 : Int) < (pn : Int) then (9 : Int) else (pn : Int)) = (m : Int) := by split <;> omega
  have i1 : (0 : Int) ≤ (m : Int) := by omega
  have i2 : (m : Int) ≤ (pc : Int) := by omega
  have hm9 : m ≤ 9 := by omega
  have hsb := (HQ.out.src.below M2.out.bel).cutHi (k := m) (by omega)
  have HSB := Lib.hid hsb
  have HBL : Hid (Byt (pl.take m)) := Lib.hid (fun x hx => HQ.out.byt x (List.mem_of_mem_take hx))
  generalize pl.take m = bl at *
  clear hm hsb HQ
  have dA : ∀ ob, (w2.alloc ob).cell? ⟨gq, 2, none⟩ = some (.slice pa pn pc) := fun ob => ((bel_alloc (Below.refl _ w2) ob).cell (World.block_lt_of_cell? w2 _ d2)).trans d2
  have HSE := Lib.hid ((Sts.nil w2).add (g := w2.heap.size) rfl #[] 5)
  obtain ⟨i0, hi0, hz, hs1, hs2⟩ := info_parts byte_info
  go_upto_region 11 with (at_builtin; go_must (refine row_append (by rfl) (.tmp 34) (.tmp 41) 23 rfl [] [] Try.underlying23 hi0 hz hs1 hs2 rfl (by omega) (Row.empty _ _ _) HSE.out rfl rfl (HSB.out.alloc _) (bs_one _) (by omega) (by omega) ?_); rintro R3 a3 c3 w3 hR3 hS3; simp only [Nat.zero_add, List.nil_append] at hR3 hS3 ⊢)
  have hm3 := M2.out.join (R' := R3 ++ []) (W' := w3) hS3
  have M3 := Lib.hid (show MedAt w [] ((gq, qcells k N pa pn pc, 43) :: (R3 ++ Ra)) g s w3 from hm3.permB (by simp))
  have HR3 := Lib.hid hR3
  clear hm3 hR3 hS3 HSE HSB M2 d0 d1 d2 dA tm tm2 i1 i2
  obtain ⟨d0, _⟩ := M3.out.cellB (gn := gq) (cs := qcells k N pa pn pc) (t := 43) (by simp) 0 (v := .int .i64 k) rfl
  obtain ⟨d1, _⟩ := M3.out.cellB (gn := gq) (cs := qcells k N pa pn pc) (t := 43) (by simp) 1 (v := .int .i64 N) rfl
  have e1 : (k == 1) = false := by rw [beq_eq_false_iff_ne]; omega
  have e2 : (k == 2) = false := by rw [beq_eq_false_iff_ne]; omega
  have e3 : (k == 3) = true := by rw [beq_iff_eq]; omega
  have e4 : (k == 4) = false := by rw [beq_eq_false_iff_ne]; omega
  have e5 : (k == 5) = false := by rw [beq_eq_false_iff_ne]; omega
  have e6 : (k == 6) = false := by rw [beq_eq_false_iff_ne]; omega
  have e7 : (k == 7) = false := by rw [beq_eq_false_iff_ne]; omega
  have e8 : decide (1 ≤ k) = true := decide_eq_true (by omega)
  have e9 : decide (k ≤ 3) = true := decide_eq_true (by omega)
  have b3 : decide (N < 0) = false := decide_eq_false (by omega)
  have b4 : decide ((L : Int) < N) = true := decide_eq_true (by omega)
  cases so with
  | true =>
    go_wp2_with fail
    refine (cut_is N (v := 1) (s' := s) M3.out HOK.out (cut_bad (by rw [HLE.out]; omega))).mono ?_
    rintro e w4 ⟨rfl, hm⟩
    have M4 := Lib.hid hm
    clear hm M3
    have M3 := M4
    clear M4
    go_wp2_with fail
    refine (bytes_is M3.out HOK.out (l := []) (by unfold Med.bytes; rw [HSO.out]; rfl)).mono ?_
    rintro e w5 ⟨a5, m5, c5, rfl, hP, hm, hb, hl, hc1, hc2⟩
    obtain rfl : m5 = 0 := hl
    have M6 := Lib.hid hm
    clear hP hm hb hc1 hc2 M3
    go_wp2_with fail
    refine (firm_is M6.out (n := (fi : Int)) (by rw [HFI.out])).mono ?_
    rintro e w7 ⟨rfl, rfl⟩
    have f1 : ((fi : Int) != (fi : Int)) = false := by simp
    go_wp2_with fail
    refine (off_is M6.out HSO.out).mono ?_
    rintro e w8 ⟨rfl, rfl⟩
    go_wp2_with fail
    refine ⟨?_, by simp [playMu, intOf]; omega⟩
    unfold PlayI
    refine ⟨_, _, _, _, _, _, _, _, _, _, _, _, _, _, _, _, _, _, _, _, _, _, _, _, _, _, _, _, _, _, _, _, _, _, _, _, _, _, _, _, _, _, _, _, _, _, _, _, _, _, _, _, _, _, _, _, _, _, _, _, _, _, _, _, _, _, _, _, _, _, _, _, _, _, _, _, _, _, _, _, _, _, _, _, _, _, _, _, _, _, _, _, _, _, _, _, _, _, _, _, _, _, _, _, _, _, _, _, _, _, _, _, _, _, _, _, _, _, _, _, _, _, _, _, _, _, _, _, _, _, _, _, _, _, _, _, _, _, _, _, _, _, _, _, _, _, _, _, _, _, _, _, _, _, _, _, _, _, _, _, _, _, _, _, _, _, _, _, _, _, _, _, _, _, _, _, _, _, _, _, _, _, _, _, _, _, _, _, _, _, _, _, _, _, _, _, _, _, _, _, _, _, _, _, _, _, _, _, _, _, _, _, _, _, _, _, _, _, _, _, _, _, _, _, _, _, _, _, _, _, _, _, _, _, _, _, _, _, _, _, _, _, ⟨i + 1, s, Ra, by simp, by omega, HFI.out, HFU.out, HSO.out, Lib.hid ⟨M6.out.subB (List.Sublist.cons _ (List.sublist_append_right _ _)), HR2.out, HOK.out, HLE.out, by omega⟩⟩, rfl⟩

  | false =>
    go_wp2_with fail
    refine (cut_is N (v := 1) (s' := s) M3.out HOK.out (cut_bad (by rw [HLE.out]; omega))).mono ?_
    rintro e w4 ⟨rfl, hm⟩
    have M4 := Lib.hid hm
    clear hm M3
    have M3 := M4
    clear M4
    go_wp2_with fail
    refine (bytes_is M3.out HOK.out (l := s.b) (by unfold Med.bytes; rw [HSO.out]; rfl)).mono ?_
    rintro e w5 ⟨a5, m5, c5, rfl, hP, hm, hb, hl, hc1, hc2⟩
    have hl5 : L = m5 := (hl.trans HLE.out).symm
    subst hl5
    have hR := HR2.out.srcB hm (fun x hx => by simp [hx])
    have M5 := Lib.hid hm; have S5 := Lib.hid hP; have S6 := Lib.hid hR
    clear hP hm hb hl hc1 hc2 hR M3
    go_wp2_with fail
    refine (same_yes s.b s.b S5.out S6.out (by omega) (by omega) rfl).mono ?_
    rintro e w6 ⟨rfl, n6, hw6⟩
    have M6 := Lib.hid (hw6 ▸ M5.out.drewN n6 : MedAt w [] _ g s w6)
    clear hw6 M5 S5 S6
    go_wp2_with fail
    refine (firm_is M6.out (n := (fi : Int)) (by rw [HFI.out])).mono ?_
    rintro e w7 ⟨rfl, rfl⟩
    have f1 : ((fi : Int) != (fi : Int)) = false := by simp
    go_wp2_with fail
    refine (off_is M6.out HSO.out).mono ?_
    rintro e w8 ⟨rfl, rfl⟩
    go_wp2_with fail
    refine ⟨?_, by simp [playMu, intOf]; omega⟩
    unfold PlayI
    refine ⟨_, _, _, _, _, _, _, _, _, _, _, _, _, _, _, _, _, _, _, _, _, _, _, _, _, _, _, _, _, _, _, _, _, _, _, _, _, _, _, _, _, _, _, _, _, _, _, _, _, _, _, _, _, _, _, _, _, _, _, _, _, _, _, _, _, _, _, _, _, _, _, _, _, _, _, _, _, _, _, _, _, _, _, _, _, _, _, _, _, _, _, _, _, _, _, _, _, _, _, _, _, _, _, _, _, _, _, _, _, _, _, _, _, _, _, _, _, _, _, _, _, _, _, _, _, _, _, _, _, _, _, _, _, _, _, _, _, _, _, _, _, _, _, _, _, _, _, _, _, _, _, _, _, _, _, _, _, _, _, _, _, _, _, _, _, _, _, _, _, _, _, _, _, _, _, _, _, _, _, _, _, _, _, _, _, _, _, _, _, _, _, _, _, _, _, _, _, _, _, _, _, _, _, _, _, _, _, _, _, _, _, _, _, _, _, _, _, _, _, _, _, _, _, _, _, _, _, _, _, _, _, _, _, _, _, _, _, _, _, _, _, _, ⟨i + 1, s, Ra, by simp, by omega, HFI.out, HFU.out, HSO.out, Lib.hid ⟨M6.out.subB (List.Sublist.cons _ (List.sublist_append_right _ _)), HR2.out, HOK.out, HLE.out, by omega⟩⟩, rfl⟩


end Go.Proofs.Ytefidbfhcpcgjaa

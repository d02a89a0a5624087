/-
  No cell of these rows narrows 'for every input' (looked for: loops, veiled, ifaces, maps, wideKeys, modest, calm, conditions, laid).
  DERIVED. THE GIVEN ROWS OF THIS SEAT. 10 by the template 'for every input the law returns true; each argument reads behind the call as it read before'; 0 by the template 'total and deterministic' (their statements: YtllbpjaiplnbnaaTotals.lean).
  GIVEN WITH THE SEED: the statements are not yours to turn. If you find one false, say at which input.
  Laid BY PROGRAM, IN A SANDBOX (cutbox-rows.mjs): the forced cells as the released guide's own fill.sh prints them over the translation 3fae98f934ff7eb2… (all of the seat's roots in one cut). By AI agents, Wed Nov 11 2026. No macro, syntax, notation, axiom, sorry.
-/
import Derived.Test.YtllbpjaiplnbnaaChecked
import GoSem.Claim
import GoSem.ClaimJoined
import GoSem.ClaimMapViews
import Derived.JoinedTies
import Derived.KernelRfl
namespace Go.Proofs.Ytllbpjaiplnbnaa
/- THE CELL 'sum', in the pinned program and in every row, IS THE sha256 OF THE DUMP (.gsa) THAT YtllbpjaiplnbnaaProg.lean LOADS. Nothing in Lean hashes anything: it is a label: what it is worth is what the hold of that sum in a sandbox is worth. -/
noncomputable def Try.pinned : Pinned := { name := "ytllbpjaiplnbnaa", sum := "3fae98f934ff7eb2c8b8708950644548a0372910b47eb3d17e39a2e17e1cf541", checked := Try.checked }
namespace Rows
def none {H : Type} : Left H := { results := [], args := [] }

/-- 'cascadelaw6.NoteRuns': WHATEVER THE INPUT: true; the input reads as it did. -/
def noteRunsSpec : ChangeSpec := { name := "noteRuns", fn := fun _ => fun
  | [] => { results := [.lit (.bool true)], args := [] }
  | _ => none }
def noteRunsRow : OpenClaim := { program := "ytllbpjaiplnbnaa", sum := "3fae98f934ff7eb2c8b8708950644548a0372910b47eb3d17e39a2e17e1cf541", func := "cascade/cascadelaw6.NoteRuns", spec := "noteRuns", apart := false }
def NoteRunsSaid : Prop := noteRunsRow.holds Try.pinned (OpenSpec.ofChange noteRunsSpec)

/-- ITS FALSE NEIGHBOUR: 'it returns false'. Refute it at one input. -/
def noteRunsWrong : ChangeSpec := { name := "noteRuns", fn := fun _ => fun
  | [] => { results := [.lit (.bool false)], args := [] }
  | _ => none }
def NoteRunsWrongFalsely : Prop := noteRunsRow.holds Try.pinned (OpenSpec.ofChange noteRunsWrong)

/-- 'cascadelaw6.NoteRight': WHATEVER THE INPUT: true; the input reads as it did. -/
def noteRightSpec : ChangeSpec := { name := "noteRight", fn := fun _ => fun
  | [d1, d2] => { results := [.lit (.bool true)], args := [d1, d2] }
  | _ => none }
def noteRightRow : OpenClaim := { program := "ytllbpjaiplnbnaa", sum := "3fae98f934ff7eb2c8b8708950644548a0372910b47eb3d17e39a2e17e1cf541", func := "cascade/cascadelaw6.NoteRight", spec := "noteRight", apart := false }
def NoteRightSaid : Prop := noteRightRow.holds Try.pinned (OpenSpec.ofChange noteRightSpec)

/-- ITS FALSE NEIGHBOUR: 'it returns false'. Refute it at one input. -/
def noteRightWrong : ChangeSpec := { name := "noteRight", fn := fun _ => fun
  | [d1, d2] => { results := [.lit (.bool false)], args := [d1, d2] }
  | _ => none }
def NoteRightWrongFalsely : Prop := noteRightRow.holds Try.pinned (OpenSpec.ofChange noteRightWrong)

/-- 'cascadelaw6.NotePromoted': WHATEVER THE INPUT: true; the input reads as it did. -/
def notePromotedSpec : ChangeSpec := { name := "notePromoted", fn := fun _ => fun
  | [d1, d2, d3, d4] => { results := [.lit (.bool true)], args := [d1, d2, d3, d4] }
  | _ => none }
def notePromotedRow : OpenClaim := { program := "ytllbpjaiplnbnaa", sum := "3fae98f934ff7eb2c8b8708950644548a0372910b47eb3d17e39a2e17e1cf541", func := "cascade/cascadelaw6.NotePromoted", spec := "notePromoted", apart := false }
def NotePromotedSaid : Prop := notePromotedRow.holds Try.pinned (OpenSpec.ofChange notePromotedSpec)

/-- ITS FALSE NEIGHBOUR: 'it returns false'. Refute it at one input. -/
def notePromotedWrong : ChangeSpec := { name := "notePromoted", fn := fun _ => fun
  | [d1, d2, d3, d4] => { results := [.lit (.bool false)], args := [d1, d2, d3, d4] }
  | _ => none }
def NotePromotedWrongFalsely : Prop := notePromotedRow.holds Try.pinned (OpenSpec.ofChange notePromotedWrong)

/-- 'cascadelaw18.LossRuns': WHATEVER THE INPUT: true; the input reads as it did. -/
def lossRunsSpec : ChangeSpec := { name := "lossRuns", fn := fun _ => fun
  | [] => { results := [.lit (.bool true)], args := [] }
  | _ => none }
def lossRunsRow : OpenClaim := { program := "ytllbpjaiplnbnaa", sum := "3fae98f934ff7eb2c8b8708950644548a0372910b47eb3d17e39a2e17e1cf541", func := "cascade/cascadelaw18.LossRuns", spec := "lossRuns", apart := false }
def LossRunsSaid : Prop := lossRunsRow.holds Try.pinned (OpenSpec.ofChange lossRunsSpec)

/-- ITS FALSE NEIGHBOUR: 'it returns false'. Refute it at one input. -/
def lossRunsWrong : ChangeSpec := { name := "lossRuns", fn := fun _ => fun
  | [] => { results := [.lit (.bool false)], args := [] }
  | _ => none }
def LossRunsWrongFalsely : Prop := lossRunsRow.holds Try.pinned (OpenSpec.ofChange lossRunsWrong)

/-- 'cascadelaw18.LossTarget': WHATEVER THE INPUT: true; the input reads as it did. -/
def lossTargetSpec : ChangeSpec := { name := "lossTarget", fn := fun _ => fun
  | [d1, d2, d3, d4, d5] => { results := [.lit (.bool true)], args := [d1, d2, d3, d4, d5] }
  | _ => none }
def lossTargetRow : OpenClaim := { program := "ytllbpjaiplnbnaa", sum := "3fae98f934ff7eb2c8b8708950644548a0372910b47eb3d17e39a2e17e1cf541", func := "cascade/cascadelaw18.LossTarget", spec := "lossTarget", apart := false }
def LossTargetSaid : Prop := lossTargetRow.holds Try.pinned (OpenSpec.ofChange lossTargetSpec)

/-- ITS FALSE NEIGHBOUR: 'it returns false'. Refute it at one input. -/
def lossTargetWrong : ChangeSpec := { name := "lossTarget", fn := fun _ => fun
  | [d1, d2, d3, d4, d5] => { results := [.lit (.bool false)], args := [d1, d2, d3, d4, d5] }
  | _ => none }
def LossTargetWrongFalsely : Prop := lossTargetRow.holds Try.pinned (OpenSpec.ofChange lossTargetWrong)

/-- 'cascadelaw6.NotePlays': WHATEVER THE INPUT: true; the input reads as it did. -/
def notePlaysSpec : ChangeSpec := { name := "notePlays", fn := fun _ => fun
  | [d1, d2] => { results := [.lit (.bool true)], args := [d1, d2] }
  | _ => none }
def notePlaysRow : OpenClaim := { program := "ytllbpjaiplnbnaa", sum := "3fae98f934ff7eb2c8b8708950644548a0372910b47eb3d17e39a2e17e1cf541", func := "cascade/cascadelaw6.NotePlays", spec := "notePlays", apart := false }
def NotePlaysSaid : Prop := notePlaysRow.holds Try.pinned (OpenSpec.ofChange notePlaysSpec)

/-- ITS FALSE NEIGHBOUR: 'it returns false'. Refute it at one input. -/
def notePlaysWrong : ChangeSpec := { name := "notePlays", fn := fun _ => fun
  | [d1, d2] => { results := [.lit (.bool false)], args := [d1, d2] }
  | _ => none }
def NotePlaysWrongFalsely : Prop := notePlaysRow.holds Try.pinned (OpenSpec.ofChange notePlaysWrong)

/-- 'cascadelaw6.NoteTotal': WHATEVER THE INPUT: true; the input reads as it did. -/
def noteTotalSpec : ChangeSpec := { name := "noteTotal", fn := fun _ => fun
  | [d1, d2, d3, d4] => { results := [.lit (.bool true)], args := [d1, d2, d3, d4] }
  | _ => none }
def noteTotalRow : OpenClaim := { program := "ytllbpjaiplnbnaa", sum := "3fae98f934ff7eb2c8b8708950644548a0372910b47eb3d17e39a2e17e1cf541", func := "cascade/cascadelaw6.NoteTotal", spec := "noteTotal", apart := false }
def NoteTotalSaid : Prop := noteTotalRow.holds Try.pinned (OpenSpec.ofChange noteTotalSpec)

/-- ITS FALSE NEIGHBOUR: 'it returns false'. Refute it at one input. -/
def noteTotalWrong : ChangeSpec := { name := "noteTotal", fn := fun _ => fun
  | [d1, d2, d3, d4] => { results := [.lit (.bool false)], args := [d1, d2, d3, d4] }
  | _ => none }
def NoteTotalWrongFalsely : Prop := noteTotalRow.holds Try.pinned (OpenSpec.ofChange noteTotalWrong)

/-- 'cascadelaw18.LossTells': WHATEVER THE INPUT: true; the input reads as it did. -/
def lossTellsSpec : ChangeSpec := { name := "lossTells", fn := fun _ => fun
  | [d1, d2, d3, d4, d5, d6] => { results := [.lit (.bool true)], args := [d1, d2, d3, d4, d5, d6] }
  | _ => none }
def lossTellsRow : OpenClaim := { program := "ytllbpjaiplnbnaa", sum := "3fae98f934ff7eb2c8b8708950644548a0372910b47eb3d17e39a2e17e1cf541", func := "cascade/cascadelaw18.LossTells", spec := "lossTells", apart := false }
def LossTellsSaid : Prop := lossTellsRow.holds Try.pinned (OpenSpec.ofChange lossTellsSpec)

/-- ITS FALSE NEIGHBOUR: 'it returns false'. Refute it at one input. -/
def lossTellsWrong : ChangeSpec := { name := "lossTells", fn := fun _ => fun
  | [d1, d2, d3, d4, d5, d6] => { results := [.lit (.bool false)], args := [d1, d2, d3, d4, d5, d6] }
  | _ => none }
def LossTellsWrongFalsely : Prop := lossTellsRow.holds Try.pinned (OpenSpec.ofChange lossTellsWrong)

/-- 'cascadelaw18.LossBack': WHATEVER THE INPUT: true; the input reads as it did. -/
def lossBackSpec : ChangeSpec := { name := "lossBack", fn := fun _ => fun
  | [d1, d2, d3] => { results := [.lit (.bool true)], args := [d1, d2, d3] }
  | _ => none }
def lossBackRow : OpenClaim := { program := "ytllbpjaiplnbnaa", sum := "3fae98f934ff7eb2c8b8708950644548a0372910b47eb3d17e39a2e17e1cf541", func := "cascade/cascadelaw18.LossBack", spec := "lossBack", apart := false }
def LossBackSaid : Prop := lossBackRow.holds Try.pinned (OpenSpec.ofChange lossBackSpec)

/-- ITS FALSE NEIGHBOUR: 'it returns false'. Refute it at one input. -/
def lossBackWrong : ChangeSpec := { name := "lossBack", fn := fun _ => fun
  | [d1, d2, d3] => { results := [.lit (.bool false)], args := [d1, d2, d3] }
  | _ => none }
def LossBackWrongFalsely : Prop := lossBackRow.holds Try.pinned (OpenSpec.ofChange lossBackWrong)

/-- 'cascadelaw18.LossRanks': WHATEVER THE INPUT: true; the input reads as it did. -/
def lossRanksSpec : ChangeSpec := { name := "lossRanks", fn := fun _ => fun
  | [d1, d2] => { results := [.lit (.bool true)], args := [d1, d2] }
  | _ => none }
def lossRanksRow : OpenClaim := { program := "ytllbpjaiplnbnaa", sum := "3fae98f934ff7eb2c8b8708950644548a0372910b47eb3d17e39a2e17e1cf541", func := "cascade/cascadelaw18.LossRanks", spec := "lossRanks", apart := false }
def LossRanksSaid : Prop := lossRanksRow.holds Try.pinned (OpenSpec.ofChange lossRanksSpec)

/-- ITS FALSE NEIGHBOUR: 'it returns false'. Refute it at one input. -/
def lossRanksWrong : ChangeSpec := { name := "lossRanks", fn := fun _ => fun
  | [d1, d2] => { results := [.lit (.bool false)], args := [d1, d2] }
  | _ => none }
def LossRanksWrongFalsely : Prop := lossRanksRow.holds Try.pinned (OpenSpec.ofChange lossRanksWrong)

/- THE SECOND FORM. 'bulk': how many values and letters a reading holds, each counted each time it is reached (what is shared counts as often as it is met; a slice's spare places count too). A statement '..UptoSaid' is the law's where the arguments, and the package variables that the reading takes, are together of bulk at most 1048576: NARROWER than '..Said'. Prove '..Said' where nothing that the law and all that it calls make is longer than what came in: it says more and counts as full. Else prove '..UptoSaid'. A law counts once. -/
mutual
def uptoBulk {H : Type} : DataW H → Nat
  | .lit (.string bytes) => bytes.length + 1
  | .lit _ => 1
  | .nil => 1
  | .ptr d => uptoBulk d + 1
  | .slice elems spare => uptoBulkAll elems + uptoBulkAll spare + 1
  | .agg parts => uptoBulkAll parts + 1
  | .iface _ d => uptoBulk d + 1
  | .map entries => uptoBulkEntries entries + 1
  | .held _ => 1
def uptoBulkAll {H : Type} : List (DataW H) → Nat
  | [] => 0
  | d :: r => uptoBulk d + uptoBulkAll r
def uptoBulkEntries {H : Type} : List (Lit × DataW H) → Nat
  | [] => 0
  | x :: r => uptoBulkEntry x + uptoBulkEntries r
def uptoBulkEntry {H : Type} : Lit × DataW H → Nat
  | (.string bytes, d) => bytes.length + uptoBulk d + 1
  | (_, d) => uptoBulk d + 1
 end
def uptoSmall : (H : Type) → List (DataW H) → Bool := fun _ ds => decide (uptoBulkAll ds ≤ 1048576)
def OpenSpec.upto (s : _root_.Go.ChangeSpec) : _root_.Go.OpenSpec := { _root_.Go.OpenSpec.ofChange s with cond := some uptoSmall }

/-- 'cascadelaw6.NoteRuns', WHERE WHAT IT READS IS OF BULK AT MOST 1048576: true; the input reads as it did. -/
def noteRunsUptoRow : OpenClaim := { program := "ytllbpjaiplnbnaa", sum := "3fae98f934ff7eb2c8b8708950644548a0372910b47eb3d17e39a2e17e1cf541", func := "cascade/cascadelaw6.NoteRuns", spec := "noteRuns", apart := false, narrowed := true }
def NoteRunsUptoSaid : Prop := noteRunsUptoRow.holds Try.pinned (OpenSpec.upto noteRunsSpec)

/-- 'cascadelaw6.NoteRight', WHERE WHAT IT READS IS OF BULK AT MOST 1048576: true; the input reads as it did. -/
def noteRightUptoRow : OpenClaim := { program := "ytllbpjaiplnbnaa", sum := "3fae98f934ff7eb2c8b8708950644548a0372910b47eb3d17e39a2e17e1cf541", func := "cascade/cascadelaw6.NoteRight", spec := "noteRight", apart := false, narrowed := true }
def NoteRightUptoSaid : Prop := noteRightUptoRow.holds Try.pinned (OpenSpec.upto noteRightSpec)

/-- 'cascadelaw6.NotePromoted', WHERE WHAT IT READS IS OF BULK AT MOST 1048576: true; the input reads as it did. -/
def notePromotedUptoRow : OpenClaim := { program := "ytllbpjaiplnbnaa", sum := "3fae98f934ff7eb2c8b8708950644548a0372910b47eb3d17e39a2e17e1cf541", func := "cascade/cascadelaw6.NotePromoted", spec := "notePromoted", apart := false, narrowed := true }
def NotePromotedUptoSaid : Prop := notePromotedUptoRow.holds Try.pinned (OpenSpec.upto notePromotedSpec)

/-- 'cascadelaw18.LossRuns', WHERE WHAT IT READS IS OF BULK AT MOST 1048576: true; the input reads as it did. -/
def lossRunsUptoRow : OpenClaim := { program := "ytllbpjaiplnbnaa", sum := "3fae98f934ff7eb2c8b8708950644548a0372910b47eb3d17e39a2e17e1cf541", func := "cascade/cascadelaw18.LossRuns", spec := "lossRuns", apart := false, narrowed := true }
def LossRunsUptoSaid : Prop := lossRunsUptoRow.holds Try.pinned (OpenSpec.upto lossRunsSpec)

/-- 'cascadelaw18.LossTarget', WHERE WHAT IT READS IS OF BULK AT MOST 1048576: true; the input reads as it did. -/
def lossTargetUptoRow : OpenClaim := { program := "ytllbpjaiplnbnaa", sum := "3fae98f934ff7eb2c8b8708950644548a0372910b47eb3d17e39a2e17e1cf541", func := "cascade/cascadelaw18.LossTarget", spec := "lossTarget", apart := false, narrowed := true }
def LossTargetUptoSaid : Prop := lossTargetUptoRow.holds Try.pinned (OpenSpec.upto lossTargetSpec)

/-- 'cascadelaw6.NotePlays', WHERE WHAT IT READS IS OF BULK AT MOST 1048576: true; the input reads as it did. -/
def notePlaysUptoRow : OpenClaim := { program := "ytllbpjaiplnbnaa", sum := "3fae98f934ff7eb2c8b8708950644548a0372910b47eb3d17e39a2e17e1cf541", func := "cascade/cascadelaw6.NotePlays", spec := "notePlays", apart := false, narrowed := true }
def NotePlaysUptoSaid : Prop := notePlaysUptoRow.holds Try.pinned (OpenSpec.upto notePlaysSpec)

/-- 'cascadelaw6.NoteTotal', WHERE WHAT IT READS IS OF BULK AT MOST 1048576: true; the input reads as it did. -/
def noteTotalUptoRow : OpenClaim := { program := "ytllbpjaiplnbnaa", sum := "3fae98f934ff7eb2c8b8708950644548a0372910b47eb3d17e39a2e17e1cf541", func := "cascade/cascadelaw6.NoteTotal", spec := "noteTotal", apart := false, narrowed := true }
def NoteTotalUptoSaid : Prop := noteTotalUptoRow.holds Try.pinned (OpenSpec.upto noteTotalSpec)

/-- 'cascadelaw18.LossTells', WHERE WHAT IT READS IS OF BULK AT MOST 1048576: true; the input reads as it did. -/
def lossTellsUptoRow : OpenClaim := { program := "ytllbpjaiplnbnaa", sum := "3fae98f934ff7eb2c8b8708950644548a0372910b47eb3d17e39a2e17e1cf541", func := "cascade/cascadelaw18.LossTells", spec := "lossTells", apart := false, narrowed := true }
def LossTellsUptoSaid : Prop := lossTellsUptoRow.holds Try.pinned (OpenSpec.upto lossTellsSpec)

/-- 'cascadelaw18.LossBack', WHERE WHAT IT READS IS OF BULK AT MOST 1048576: true; the input reads as it did. -/
def lossBackUptoRow : OpenClaim := { program := "ytllbpjaiplnbnaa", sum := "3fae98f934ff7eb2c8b8708950644548a0372910b47eb3d17e39a2e17e1cf541", func := "cascade/cascadelaw18.LossBack", spec := "lossBack", apart := false, narrowed := true }
def LossBackUptoSaid : Prop := lossBackUptoRow.holds Try.pinned (OpenSpec.upto lossBackSpec)

/-- 'cascadelaw18.LossRanks', WHERE WHAT IT READS IS OF BULK AT MOST 1048576: true; the input reads as it did. -/
def lossRanksUptoRow : OpenClaim := { program := "ytllbpjaiplnbnaa", sum := "3fae98f934ff7eb2c8b8708950644548a0372910b47eb3d17e39a2e17e1cf541", func := "cascade/cascadelaw18.LossRanks", spec := "lossRanks", apart := false, narrowed := true }
def LossRanksUptoSaid : Prop := lossRanksUptoRow.holds Try.pinned (OpenSpec.upto lossRanksSpec)

end Rows
end Go.Proofs.Ytllbpjaiplnbnaa

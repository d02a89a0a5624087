/-
  No cell of these rows narrows 'for every input' (looked for: loops, veiled, ifaces, maps, wideKeys, modest, calm, conditions, laid).
  DERIVED. THE GIVEN ROWS OF THIS SEAT. 5 by the template 'for every input the law returns true; each argument reads behind the call as it read before'; 0 by the template 'total and deterministic' (their statements: YtideaimlnipkoaaTotals.lean).
  GIVEN WITH THE SEED: the statements are not yours to turn. If you find one false, say at which input.
  Laid BY PROGRAM, IN A SANDBOX (cutbox-rows.mjs): the forced cells as the released guide's own fill.sh prints them over the translation f69e651ddbe24289… (all of the seat's roots in one cut). By AI agents, Wed Nov 11 2026. No macro, syntax, notation, axiom, sorry.
-/
import Derived.Test.YtideaimlnipkoaaChecked
import GoSem.Claim
import GoSem.ClaimJoined
import GoSem.ClaimMapViews
import Derived.JoinedTies
import Derived.KernelRfl
namespace Go.Proofs.Ytideaimlnipkoaa
/- THE CELL 'sum', in the pinned program and in every row, IS THE sha256 OF THE DUMP (.gsa) THAT YtideaimlnipkoaaProg.lean LOADS. Nothing in Lean hashes anything: it is a label: what it is worth is what the hold of that sum in a sandbox is worth. -/
noncomputable def Try.pinned : Pinned := { name := "ytideaimlnipkoaa", sum := "f69e651ddbe24289c7d9dff3d7a4912d9e138fa4a067a34afda2a5b1bbb7cb14", checked := Try.checked }
namespace Rows
def none {H : Type} : Left H := { results := [], args := [] }

/-- 'cascadelaw7.SheetRuns': WHATEVER THE INPUT: true; the input reads as it did. -/
def sheetRunsSpec : ChangeSpec := { name := "sheetRuns", fn := fun _ => fun
  | [] => { results := [.lit (.bool true)], args := [] }
  | _ => none }
def sheetRunsRow : OpenClaim := { program := "ytideaimlnipkoaa", sum := "f69e651ddbe24289c7d9dff3d7a4912d9e138fa4a067a34afda2a5b1bbb7cb14", func := "cascade/cascadelaw7.SheetRuns", spec := "sheetRuns", apart := false }
def SheetRunsSaid : Prop := sheetRunsRow.holds Try.pinned (OpenSpec.ofChange sheetRunsSpec)

/-- ITS FALSE NEIGHBOUR: 'it returns false'. Refute it at one input. -/
def sheetRunsWrong : ChangeSpec := { name := "sheetRuns", fn := fun _ => fun
  | [] => { results := [.lit (.bool false)], args := [] }
  | _ => none }
def SheetRunsWrongFalsely : Prop := sheetRunsRow.holds Try.pinned (OpenSpec.ofChange sheetRunsWrong)

/-- 'cascadelaw7.SheetZero': WHATEVER THE INPUT: true; the input reads as it did. -/
def sheetZeroSpec : ChangeSpec := { name := "sheetZero", fn := fun _ => fun
  | [d1, d2, d3, d4] => { results := [.lit (.bool true)], args := [d1, d2, d3, d4] }
  | _ => none }
def sheetZeroRow : OpenClaim := { program := "ytideaimlnipkoaa", sum := "f69e651ddbe24289c7d9dff3d7a4912d9e138fa4a067a34afda2a5b1bbb7cb14", func := "cascade/cascadelaw7.SheetZero", spec := "sheetZero", apart := false }
def SheetZeroSaid : Prop := sheetZeroRow.holds Try.pinned (OpenSpec.ofChange sheetZeroSpec)

/-- ITS FALSE NEIGHBOUR: 'it returns false'. Refute it at one input. -/
def sheetZeroWrong : ChangeSpec := { name := "sheetZero", fn := fun _ => fun
  | [d1, d2, d3, d4] => { results := [.lit (.bool false)], args := [d1, d2, d3, d4] }
  | _ => none }
def SheetZeroWrongFalsely : Prop := sheetZeroRow.holds Try.pinned (OpenSpec.ofChange sheetZeroWrong)

/-- 'cascadelaw7.SheetNet': WHATEVER THE INPUT: true; the input reads as it did. -/
def sheetNetSpec : ChangeSpec := { name := "sheetNet", fn := fun _ => fun
  | [d1, d2] => { results := [.lit (.bool true)], args := [d1, d2] }
  | _ => none }
def sheetNetRow : OpenClaim := { program := "ytideaimlnipkoaa", sum := "f69e651ddbe24289c7d9dff3d7a4912d9e138fa4a067a34afda2a5b1bbb7cb14", func := "cascade/cascadelaw7.SheetNet", spec := "sheetNet", apart := false }
def SheetNetSaid : Prop := sheetNetRow.holds Try.pinned (OpenSpec.ofChange sheetNetSpec)

/-- ITS FALSE NEIGHBOUR: 'it returns false'. Refute it at one input. -/
def sheetNetWrong : ChangeSpec := { name := "sheetNet", fn := fun _ => fun
  | [d1, d2] => { results := [.lit (.bool false)], args := [d1, d2] }
  | _ => none }
def SheetNetWrongFalsely : Prop := sheetNetRow.holds Try.pinned (OpenSpec.ofChange sheetNetWrong)

/-- 'cascadelaw7.SheetParts': WHATEVER THE INPUT: true; the input reads as it did. -/
def sheetPartsSpec : ChangeSpec := { name := "sheetParts", fn := fun _ => fun
  | [d1, d2, d3] => { results := [.lit (.bool true)], args := [d1, d2, d3] }
  | _ => none }
def sheetPartsRow : OpenClaim := { program := "ytideaimlnipkoaa", sum := "f69e651ddbe24289c7d9dff3d7a4912d9e138fa4a067a34afda2a5b1bbb7cb14", func := "cascade/cascadelaw7.SheetParts", spec := "sheetParts", apart := false }
def SheetPartsSaid : Prop := sheetPartsRow.holds Try.pinned (OpenSpec.ofChange sheetPartsSpec)

/-- ITS FALSE NEIGHBOUR: 'it returns false'. Refute it at one input. -/
def sheetPartsWrong : ChangeSpec := { name := "sheetParts", fn := fun _ => fun
  | [d1, d2, d3] => { results := [.lit (.bool false)], args := [d1, d2, d3] }
  | _ => none }
def SheetPartsWrongFalsely : Prop := sheetPartsRow.holds Try.pinned (OpenSpec.ofChange sheetPartsWrong)

/-- 'cascadelaw7.SheetPlays': WHATEVER THE INPUT: true; the input reads as it did. -/
def sheetPlaysSpec : ChangeSpec := { name := "sheetPlays", fn := fun _ => fun
  | [d1, d2] => { results := [.lit (.bool true)], args := [d1, d2] }
  | _ => none }
def sheetPlaysRow : OpenClaim := { program := "ytideaimlnipkoaa", sum := "f69e651ddbe24289c7d9dff3d7a4912d9e138fa4a067a34afda2a5b1bbb7cb14", func := "cascade/cascadelaw7.SheetPlays", spec := "sheetPlays", apart := false }
def SheetPlaysSaid : Prop := sheetPlaysRow.holds Try.pinned (OpenSpec.ofChange sheetPlaysSpec)

/-- ITS FALSE NEIGHBOUR: 'it returns false'. Refute it at one input. -/
def sheetPlaysWrong : ChangeSpec := { name := "sheetPlays", fn := fun _ => fun
  | [d1, d2] => { results := [.lit (.bool false)], args := [d1, d2] }
  | _ => none }
def SheetPlaysWrongFalsely : Prop := sheetPlaysRow.holds Try.pinned (OpenSpec.ofChange sheetPlaysWrong)

/- THE SECOND FORM. 'bulk': how many values and letters a reading holds, each counted each time it is reached (what is shared counts as often as it is met; a slice's spare places count too). A statement '..UptoSaid' is the law's where the arguments, and the package variables that the reading takes, are together of bulk at most 1048576: NARROWER than '..Said'. Prove '..Said' where nothing that the law and all that it calls make is longer than what came in: it says more and counts as full. Else prove '..UptoSaid'. A law counts once. -/
mutual
def uptoBulk {H : Type} : DataW H → Nat
  | .lit (.string bytes) => bytes.length + 1
  | .lit _ => 1
  | .nil => 1
  | .ptr d => uptoBulk d + 1
  | .slice elems spare => uptoBulkAll elems + uptoBulkAll spare + 1
  | .agg parts => uptoBulkAll parts + 1
  | .iface _ d => uptoBulk d + 1
  | .map entries => uptoBulkEntries entries + 1
  | .held _ => 1
def uptoBulkAll {H : Type} : List (DataW H) → Nat
  | [] => 0
  | d :: r => uptoBulk d + uptoBulkAll r
def uptoBulkEntries {H : Type} : List (Lit × DataW H) → Nat
  | [] => 0
  | x :: r => uptoBulkEntry x + uptoBulkEntries r
def uptoBulkEntry {H : Type} : Lit × DataW H → Nat
  | (.string bytes, d) => bytes.length + uptoBulk d + 1
  | (_, d) => uptoBulk d + 1
 end
def uptoSmall : (H : Type) → List (DataW H) → Bool := fun _ ds => decide (uptoBulkAll ds ≤ 1048576)
def OpenSpec.upto (s : _root_.Go.ChangeSpec) : _root_.Go.OpenSpec := { _root_.Go.OpenSpec.ofChange s with cond := some uptoSmall }

/-- 'cascadelaw7.SheetRuns', WHERE WHAT IT READS IS OF BULK AT MOST 1048576: true; the input reads as it did. -/
def sheetRunsUptoRow : OpenClaim := { program := "ytideaimlnipkoaa", sum := "f69e651ddbe24289c7d9dff3d7a4912d9e138fa4a067a34afda2a5b1bbb7cb14", func := "cascade/cascadelaw7.SheetRuns", spec := "sheetRuns", apart := false, narrowed := true }
def SheetRunsUptoSaid : Prop := sheetRunsUptoRow.holds Try.pinned (OpenSpec.upto sheetRunsSpec)

/-- 'cascadelaw7.SheetZero', WHERE WHAT IT READS IS OF BULK AT MOST 1048576: true; the input reads as it did. -/
def sheetZeroUptoRow : OpenClaim := { program := "ytideaimlnipkoaa", sum := "f69e651ddbe24289c7d9dff3d7a4912d9e138fa4a067a34afda2a5b1bbb7cb14", func := "cascade/cascadelaw7.SheetZero", spec := "sheetZero", apart := false, narrowed := true }
def SheetZeroUptoSaid : Prop := sheetZeroUptoRow.holds Try.pinned (OpenSpec.upto sheetZeroSpec)

/-- 'cascadelaw7.SheetNet', WHERE WHAT IT READS IS OF BULK AT MOST 1048576: true; the input reads as it did. -/
def sheetNetUptoRow : OpenClaim := { program := "ytideaimlnipkoaa", sum := "f69e651ddbe24289c7d9dff3d7a4912d9e138fa4a067a34afda2a5b1bbb7cb14", func := "cascade/cascadelaw7.SheetNet", spec := "sheetNet", apart := false, narrowed := true }
def SheetNetUptoSaid : Prop := sheetNetUptoRow.holds Try.pinned (OpenSpec.upto sheetNetSpec)

/-- 'cascadelaw7.SheetParts', WHERE WHAT IT READS IS OF BULK AT MOST 1048576: true; the input reads as it did. -/
def sheetPartsUptoRow : OpenClaim := { program := "ytideaimlnipkoaa", sum := "f69e651ddbe24289c7d9dff3d7a4912d9e138fa4a067a34afda2a5b1bbb7cb14", func := "cascade/cascadelaw7.SheetParts", spec := "sheetParts", apart := false, narrowed := true }
def SheetPartsUptoSaid : Prop := sheetPartsUptoRow.holds Try.pinned (OpenSpec.upto sheetPartsSpec)

/-- 'cascadelaw7.SheetPlays', WHERE WHAT IT READS IS OF BULK AT MOST 1048576: true; the input reads as it did. -/
def sheetPlaysUptoRow : OpenClaim := { program := "ytideaimlnipkoaa", sum := "f69e651ddbe24289c7d9dff3d7a4912d9e138fa4a067a34afda2a5b1bbb7cb14", func := "cascade/cascadelaw7.SheetPlays", spec := "sheetPlays", apart := false, narrowed := true }
def SheetPlaysUptoSaid : Prop := sheetPlaysUptoRow.holds Try.pinned (OpenSpec.upto sheetPlaysSpec)

end Rows
end Go.Proofs.Ytideaimlnipkoaa

/-
  No cell of these rows narrows 'for every input' (looked for: loops, veiled, ifaces, maps, wideKeys, modest, calm, conditions, laid).
  DERIVED. THE GIVEN ROWS OF THIS SEAT. 15 by the template 'for every input the law returns true; each argument reads behind the call as it read before'; 0 by the template 'total and deterministic' (their statements: YtefidbfhcpcgjaaTotals.lean).
  GIVEN WITH THE SEED: the statements are not yours to turn. If you find one false, say at which input.
  Laid BY PROGRAM, IN A SANDBOX (cutbox-rows.mjs): the forced cells as the released guide's own fill.sh prints them over the translation 14499adf1e9b6902… (all of the seat's roots in one cut). By AI agents, Wed Nov 11 2026. No macro, syntax, notation, axiom, sorry.
-/
import Derived.Test.YtefidbfhcpcgjaaChecked
import GoSem.Claim
import GoSem.ClaimJoined
import GoSem.ClaimMapViews
import Derived.JoinedTies
import Derived.KernelRfl
namespace Go.Proofs.Ytefidbfhcpcgjaa
/- THE CELL 'sum', in the pinned program and in every row, IS THE sha256 OF THE DUMP (.gsa) THAT YtefidbfhcpcgjaaProg.lean LOADS. Nothing in Lean hashes anything: it is a label: what it is worth is what the hold of that sum in a sandbox is worth. -/
noncomputable def Try.pinned : Pinned := { name := "ytefidbfhcpcgjaa", sum := "14499adf1e9b6902e00323c68aa2956d0ace4223c108a379e435d8987702de7a", checked := Try.checked }
namespace Rows
def none {H : Type} : Left H := { results := [], args := [] }

/-- 'cascadelaw24.FrameRuns': WHATEVER THE INPUT: true; the input reads as it did. -/
def frameRunsSpec : ChangeSpec := { name := "frameRuns", fn := fun _ => fun
  | [] => { results := [.lit (.bool true)], args := [] }
  | _ => none }
def frameRunsRow : OpenClaim := { program := "ytefidbfhcpcgjaa", sum := "14499adf1e9b6902e00323c68aa2956d0ace4223c108a379e435d8987702de7a", func := "cascade/cascadelaw24.FrameRuns", spec := "frameRuns", apart := false }
def FrameRunsSaid : Prop := frameRunsRow.holds Try.pinned (OpenSpec.ofChange frameRunsSpec)

/-- ITS FALSE NEIGHBOUR: 'it returns false'. Refute it at one input. -/
def frameRunsWrong : ChangeSpec := { name := "frameRuns", fn := fun _ => fun
  | [] => { results := [.lit (.bool false)], args := [] }
  | _ => none }
def FrameRunsWrongFalsely : Prop := frameRunsRow.holds Try.pinned (OpenSpec.ofChange frameRunsWrong)

/-- 'cascadelaw24.FrameSums': WHATEVER THE INPUT: true; the input reads as it did. -/
def frameSumsSpec : ChangeSpec := { name := "frameSums", fn := fun _ => fun
  | [d1, d2, d3] => { results := [.lit (.bool true)], args := [d1, d2, d3] }
  | _ => none }
def frameSumsRow : OpenClaim := { program := "ytefidbfhcpcgjaa", sum := "14499adf1e9b6902e00323c68aa2956d0ace4223c108a379e435d8987702de7a", func := "cascade/cascadelaw24.FrameSums", spec := "frameSums", apart := false }
def FrameSumsSaid : Prop := frameSumsRow.holds Try.pinned (OpenSpec.ofChange frameSumsSpec)

/-- ITS FALSE NEIGHBOUR: 'it returns false'. Refute it at one input. -/
def frameSumsWrong : ChangeSpec := { name := "frameSums", fn := fun _ => fun
  | [d1, d2, d3] => { results := [.lit (.bool false)], args := [d1, d2, d3] }
  | _ => none }
def FrameSumsWrongFalsely : Prop := frameSumsRow.holds Try.pinned (OpenSpec.ofChange frameSumsWrong)

/-- 'cascadelaw23.MediumRuns': WHATEVER THE INPUT: true; the input reads as it did. -/
def mediumRunsSpec : ChangeSpec := { name := "mediumRuns", fn := fun _ => fun
  | [] => { results := [.lit (.bool true)], args := [] }
  | _ => none }
def mediumRunsRow : OpenClaim := { program := "ytefidbfhcpcgjaa", sum := "14499adf1e9b6902e00323c68aa2956d0ace4223c108a379e435d8987702de7a", func := "cascade/cascadelaw23.MediumRuns", spec := "mediumRuns", apart := false }
def MediumRunsSaid : Prop := mediumRunsRow.holds Try.pinned (OpenSpec.ofChange mediumRunsSpec)

/-- ITS FALSE NEIGHBOUR: 'it returns false'. Refute it at one input. -/
def mediumRunsWrong : ChangeSpec := { name := "mediumRuns", fn := fun _ => fun
  | [] => { results := [.lit (.bool false)], args := [] }
  | _ => none }
def MediumRunsWrongFalsely : Prop := mediumRunsRow.holds Try.pinned (OpenSpec.ofChange mediumRunsWrong)

/-- 'cascadelaw23.MediumKeeps': WHATEVER THE INPUT: true; the input reads as it did. -/
def mediumKeepsSpec : ChangeSpec := { name := "mediumKeeps", fn := fun _ => fun
  | [d1, d2, d3] => { results := [.lit (.bool true)], args := [d1, d2, d3] }
  | _ => none }
def mediumKeepsRow : OpenClaim := { program := "ytefidbfhcpcgjaa", sum := "14499adf1e9b6902e00323c68aa2956d0ace4223c108a379e435d8987702de7a", func := "cascade/cascadelaw23.MediumKeeps", spec := "mediumKeeps", apart := false }
def MediumKeepsSaid : Prop := mediumKeepsRow.holds Try.pinned (OpenSpec.ofChange mediumKeepsSpec)

/-- ITS FALSE NEIGHBOUR: 'it returns false'. Refute it at one input. -/
def mediumKeepsWrong : ChangeSpec := { name := "mediumKeeps", fn := fun _ => fun
  | [d1, d2, d3] => { results := [.lit (.bool false)], args := [d1, d2, d3] }
  | _ => none }
def MediumKeepsWrongFalsely : Prop := mediumKeepsRow.holds Try.pinned (OpenSpec.ofChange mediumKeepsWrong)

/-- 'cascadelaw23.MediumCuts': WHATEVER THE INPUT: true; the input reads as it did. -/
def mediumCutsSpec : ChangeSpec := { name := "mediumCuts", fn := fun _ => fun
  | [d1, d2, d3, d4] => { results := [.lit (.bool true)], args := [d1, d2, d3, d4] }
  | _ => none }
def mediumCutsRow : OpenClaim := { program := "ytefidbfhcpcgjaa", sum := "14499adf1e9b6902e00323c68aa2956d0ace4223c108a379e435d8987702de7a", func := "cascade/cascadelaw23.MediumCuts", spec := "mediumCuts", apart := false }
def MediumCutsSaid : Prop := mediumCutsRow.holds Try.pinned (OpenSpec.ofChange mediumCutsSpec)

/-- ITS FALSE NEIGHBOUR: 'it returns false'. Refute it at one input. -/
def mediumCutsWrong : ChangeSpec := { name := "mediumCuts", fn := fun _ => fun
  | [d1, d2, d3, d4] => { results := [.lit (.bool false)], args := [d1, d2, d3, d4] }
  | _ => none }
def MediumCutsWrongFalsely : Prop := mediumCutsRow.holds Try.pinned (OpenSpec.ofChange mediumCutsWrong)

/-- 'cascadelaw23.MediumPlays': WHATEVER THE INPUT: true; the input reads as it did. -/
def mediumPlaysSpec : ChangeSpec := { name := "mediumPlays", fn := fun _ => fun
  | [d] => { results := [.lit (.bool true)], args := [d] }
  | _ => none }
def mediumPlaysRow : OpenClaim := { program := "ytefidbfhcpcgjaa", sum := "14499adf1e9b6902e00323c68aa2956d0ace4223c108a379e435d8987702de7a", func := "cascade/cascadelaw23.MediumPlays", spec := "mediumPlays", apart := false }
def MediumPlaysSaid : Prop := mediumPlaysRow.holds Try.pinned (OpenSpec.ofChange mediumPlaysSpec)

/-- ITS FALSE NEIGHBOUR: 'it returns false'. Refute it at one input. -/
def mediumPlaysWrong : ChangeSpec := { name := "mediumPlays", fn := fun _ => fun
  | [d] => { results := [.lit (.bool false)], args := [d] }
  | _ => none }
def MediumPlaysWrongFalsely : Prop := mediumPlaysRow.holds Try.pinned (OpenSpec.ofChange mediumPlaysWrong)

/-- 'cascadelaw24.FrameBack': WHATEVER THE INPUT: true; the input reads as it did. -/
def frameBackSpec : ChangeSpec := { name := "frameBack", fn := fun _ => fun
  | [d1, d2, d3, d4, d5] => { results := [.lit (.bool true)], args := [d1, d2, d3, d4, d5] }
  | _ => none }
def frameBackRow : OpenClaim := { program := "ytefidbfhcpcgjaa", sum := "14499adf1e9b6902e00323c68aa2956d0ace4223c108a379e435d8987702de7a", func := "cascade/cascadelaw24.FrameBack", spec := "frameBack", apart := false }
def FrameBackSaid : Prop := frameBackRow.holds Try.pinned (OpenSpec.ofChange frameBackSpec)

/-- ITS FALSE NEIGHBOUR: 'it returns false'. Refute it at one input. -/
def frameBackWrong : ChangeSpec := { name := "frameBack", fn := fun _ => fun
  | [d1, d2, d3, d4, d5] => { results := [.lit (.bool false)], args := [d1, d2, d3, d4, d5] }
  | _ => none }
def FrameBackWrongFalsely : Prop := frameBackRow.holds Try.pinned (OpenSpec.ofChange frameBackWrong)

/-- 'cascadelaw24.FrameOne': WHATEVER THE INPUT: true; the input reads as it did. -/
def frameOneSpec : ChangeSpec := { name := "frameOne", fn := fun _ => fun
  | [d1, d2, d3, d4, d5, d6] => { results := [.lit (.bool true)], args := [d1, d2, d3, d4, d5, d6] }
  | _ => none }
def frameOneRow : OpenClaim := { program := "ytefidbfhcpcgjaa", sum := "14499adf1e9b6902e00323c68aa2956d0ace4223c108a379e435d8987702de7a", func := "cascade/cascadelaw24.FrameOne", spec := "frameOne", apart := false }
def FrameOneSaid : Prop := frameOneRow.holds Try.pinned (OpenSpec.ofChange frameOneSpec)

/-- ITS FALSE NEIGHBOUR: 'it returns false'. Refute it at one input. -/
def frameOneWrong : ChangeSpec := { name := "frameOne", fn := fun _ => fun
  | [d1, d2, d3, d4, d5, d6] => { results := [.lit (.bool false)], args := [d1, d2, d3, d4, d5, d6] }
  | _ => none }
def FrameOneWrongFalsely : Prop := frameOneRow.holds Try.pinned (OpenSpec.ofChange frameOneWrong)

/-- 'cascadelaw24.FrameAny': WHATEVER THE INPUT: true; the input reads as it did. -/
def frameAnySpec : ChangeSpec := { name := "frameAny", fn := fun _ => fun
  | [d1, d2, d3, d4] => { results := [.lit (.bool true)], args := [d1, d2, d3, d4] }
  | _ => none }
def frameAnyRow : OpenClaim := { program := "ytefidbfhcpcgjaa", sum := "14499adf1e9b6902e00323c68aa2956d0ace4223c108a379e435d8987702de7a", func := "cascade/cascadelaw24.FrameAny", spec := "frameAny", apart := false }
def FrameAnySaid : Prop := frameAnyRow.holds Try.pinned (OpenSpec.ofChange frameAnySpec)

/-- ITS FALSE NEIGHBOUR: 'it returns false'. Refute it at one input. -/
def frameAnyWrong : ChangeSpec := { name := "frameAny", fn := fun _ => fun
  | [d1, d2, d3, d4] => { results := [.lit (.bool false)], args := [d1, d2, d3, d4] }
  | _ => none }
def FrameAnyWrongFalsely : Prop := frameAnyRow.holds Try.pinned (OpenSpec.ofChange frameAnyWrong)

/-- 'cascadelaw24.FrameMany': WHATEVER THE INPUT: true; the input reads as it did. -/
def frameManySpec : ChangeSpec := { name := "frameMany", fn := fun _ => fun
  | [d1, d2, d3] => { results := [.lit (.bool true)], args := [d1, d2, d3] }
  | _ => none }
def frameManyRow : OpenClaim := { program := "ytefidbfhcpcgjaa", sum := "14499adf1e9b6902e00323c68aa2956d0ace4223c108a379e435d8987702de7a", func := "cascade/cascadelaw24.FrameMany", spec := "frameMany", apart := false }
def FrameManySaid : Prop := frameManyRow.holds Try.pinned (OpenSpec.ofChange frameManySpec)

/-- ITS FALSE NEIGHBOUR: 'it returns false'. Refute it at one input. -/
def frameManyWrong : ChangeSpec := { name := "frameMany", fn := fun _ => fun
  | [d1, d2, d3] => { results := [.lit (.bool false)], args := [d1, d2, d3] }
  | _ => none }
def FrameManyWrongFalsely : Prop := frameManyRow.holds Try.pinned (OpenSpec.ofChange frameManyWrong)

/-- 'cascadelaw25.JournalRuns': WHATEVER THE INPUT: true; the input reads as it did. -/
def journalRunsSpec : ChangeSpec := { name := "journalRuns", fn := fun _ => fun
  | [] => { results := [.lit (.bool true)], args := [] }
  | _ => none }
def journalRunsRow : OpenClaim := { program := "ytefidbfhcpcgjaa", sum := "14499adf1e9b6902e00323c68aa2956d0ace4223c108a379e435d8987702de7a", func := "cascade/cascadelaw25.JournalRuns", spec := "journalRuns", apart := false }
def JournalRunsSaid : Prop := journalRunsRow.holds Try.pinned (OpenSpec.ofChange journalRunsSpec)

/-- ITS FALSE NEIGHBOUR: 'it returns false'. Refute it at one input. -/
def journalRunsWrong : ChangeSpec := { name := "journalRuns", fn := fun _ => fun
  | [] => { results := [.lit (.bool false)], args := [] }
  | _ => none }
def JournalRunsWrongFalsely : Prop := journalRunsRow.holds Try.pinned (OpenSpec.ofChange journalRunsWrong)

/-- 'cascadelaw25.JournalCrash': WHATEVER THE INPUT: true; the input reads as it did. -/
def journalCrashSpec : ChangeSpec := { name := "journalCrash", fn := fun _ => fun
  | [d1, d2, d3, d4, d5] => { results := [.lit (.bool true)], args := [d1, d2, d3, d4, d5] }
  | _ => none }
def journalCrashRow : OpenClaim := { program := "ytefidbfhcpcgjaa", sum := "14499adf1e9b6902e00323c68aa2956d0ace4223c108a379e435d8987702de7a", func := "cascade/cascadelaw25.JournalCrash", spec := "journalCrash", apart := false }
def JournalCrashSaid : Prop := journalCrashRow.holds Try.pinned (OpenSpec.ofChange journalCrashSpec)

/-- ITS FALSE NEIGHBOUR: 'it returns false'. Refute it at one input. -/
def journalCrashWrong : ChangeSpec := { name := "journalCrash", fn := fun _ => fun
  | [d1, d2, d3, d4, d5] => { results := [.lit (.bool false)], args := [d1, d2, d3, d4, d5] }
  | _ => none }
def JournalCrashWrongFalsely : Prop := journalCrashRow.holds Try.pinned (OpenSpec.ofChange journalCrashWrong)

/-- 'cascadelaw25.JournalDown': WHATEVER THE INPUT: true; the input reads as it did. -/
def journalDownSpec : ChangeSpec := { name := "journalDown", fn := fun _ => fun
  | [d1, d2] => { results := [.lit (.bool true)], args := [d1, d2] }
  | _ => none }
def journalDownRow : OpenClaim := { program := "ytefidbfhcpcgjaa", sum := "14499adf1e9b6902e00323c68aa2956d0ace4223c108a379e435d8987702de7a", func := "cascade/cascadelaw25.JournalDown", spec := "journalDown", apart := false }
def JournalDownSaid : Prop := journalDownRow.holds Try.pinned (OpenSpec.ofChange journalDownSpec)

/-- ITS FALSE NEIGHBOUR: 'it returns false'. Refute it at one input. -/
def journalDownWrong : ChangeSpec := { name := "journalDown", fn := fun _ => fun
  | [d1, d2] => { results := [.lit (.bool false)], args := [d1, d2] }
  | _ => none }
def JournalDownWrongFalsely : Prop := journalDownRow.holds Try.pinned (OpenSpec.ofChange journalDownWrong)

/-- 'cascadelaw25.JournalTwo': WHATEVER THE INPUT: true; the input reads as it did. -/
def journalTwoSpec : ChangeSpec := { name := "journalTwo", fn := fun _ => fun
  | [d1, d2] => { results := [.lit (.bool true)], args := [d1, d2] }
  | _ => none }
def journalTwoRow : OpenClaim := { program := "ytefidbfhcpcgjaa", sum := "14499adf1e9b6902e00323c68aa2956d0ace4223c108a379e435d8987702de7a", func := "cascade/cascadelaw25.JournalTwo", spec := "journalTwo", apart := false }
def JournalTwoSaid : Prop := journalTwoRow.holds Try.pinned (OpenSpec.ofChange journalTwoSpec)

/-- ITS FALSE NEIGHBOUR: 'it returns false'. Refute it at one input. -/
def journalTwoWrong : ChangeSpec := { name := "journalTwo", fn := fun _ => fun
  | [d1, d2] => { results := [.lit (.bool false)], args := [d1, d2] }
  | _ => none }
def JournalTwoWrongFalsely : Prop := journalTwoRow.holds Try.pinned (OpenSpec.ofChange journalTwoWrong)

/-- 'cascadelaw25.JournalSpoilt': WHATEVER THE INPUT: true; the input reads as it did. -/
def journalSpoiltSpec : ChangeSpec := { name := "journalSpoilt", fn := fun _ => fun
  | [d1, d2, d3] => { results := [.lit (.bool true)], args := [d1, d2, d3] }
  | _ => none }
def journalSpoiltRow : OpenClaim := { program := "ytefidbfhcpcgjaa", sum := "14499adf1e9b6902e00323c68aa2956d0ace4223c108a379e435d8987702de7a", func := "cascade/cascadelaw25.JournalSpoilt", spec := "journalSpoilt", apart := false }
def JournalSpoiltSaid : Prop := journalSpoiltRow.holds Try.pinned (OpenSpec.ofChange journalSpoiltSpec)

/-- ITS FALSE NEIGHBOUR: 'it returns false'. Refute it at one input. -/
def journalSpoiltWrong : ChangeSpec := { name := "journalSpoilt", fn := fun _ => fun
  | [d1, d2, d3] => { results := [.lit (.bool false)], args := [d1, d2, d3] }
  | _ => none }
def JournalSpoiltWrongFalsely : Prop := journalSpoiltRow.holds Try.pinned (OpenSpec.ofChange journalSpoiltWrong)

/- THE SECOND FORM. 'bulk': how many values and letters a reading holds, each counted each time it is reached (what is shared counts as often as it is met; a slice's spare places count too). A statement '..UptoSaid' is the law's where the arguments, and the package variables that the reading takes, are together of bulk at most 1048576: NARROWER than '..Said'. Prove '..Said' where nothing that the law and all that it calls make is longer than what came in: it says more and counts as full. Else prove '..UptoSaid'. A law counts once. -/
mutual
def uptoBulk {H : Type} : DataW H → Nat
  | .lit (.string bytes) => bytes.length + 1
  | .lit _ => 1
  | .nil => 1
  | .ptr d => uptoBulk d + 1
  | .slice elems spare => uptoBulkAll elems + uptoBulkAll spare + 1
  | .agg parts => uptoBulkAll parts + 1
  | .iface _ d => uptoBulk d + 1
  | .map entries => uptoBulkEntries entries + 1
  | .held _ => 1
def uptoBulkAll {H : Type} : List (DataW H) → Nat
  | [] => 0
  | d :: r => uptoBulk d + uptoBulkAll r
def uptoBulkEntries {H : Type} : List (Lit × DataW H) → Nat
  | [] => 0
  | x :: r => uptoBulkEntry x + uptoBulkEntries r
def uptoBulkEntry {H : Type} : Lit × DataW H → Nat
  | (.string bytes, d) => bytes.length + uptoBulk d + 1
  | (_, d) => uptoBulk d + 1
 end
def uptoSmall : (H : Type) → List (DataW H) → Bool := fun _ ds => decide (uptoBulkAll ds ≤ 1048576)
def OpenSpec.upto (s : _root_.Go.ChangeSpec) : _root_.Go.OpenSpec := { _root_.Go.OpenSpec.ofChange s with cond := some uptoSmall }

/-- 'cascadelaw24.FrameRuns', WHERE WHAT IT READS IS OF BULK AT MOST 1048576: true; the input reads as it did. -/
def frameRunsUptoRow : OpenClaim := { program := "ytefidbfhcpcgjaa", sum := "14499adf1e9b6902e00323c68aa2956d0ace4223c108a379e435d8987702de7a", func := "cascade/cascadelaw24.FrameRuns", spec := "frameRuns", apart := false, narrowed := true }
def FrameRunsUptoSaid : Prop := frameRunsUptoRow.holds Try.pinned (OpenSpec.upto frameRunsSpec)

/-- 'cascadelaw24.FrameSums', WHERE WHAT IT READS IS OF BULK AT MOST 1048576: true; the input reads as it did. -/
def frameSumsUptoRow : OpenClaim := { program := "ytefidbfhcpcgjaa", sum := "14499adf1e9b6902e00323c68aa2956d0ace4223c108a379e435d8987702de7a", func := "cascade/cascadelaw24.FrameSums", spec := "frameSums", apart := false, narrowed := true }
def FrameSumsUptoSaid : Prop := frameSumsUptoRow.holds Try.pinned (OpenSpec.upto frameSumsSpec)

/-- 'cascadelaw23.MediumRuns', WHERE WHAT IT READS IS OF BULK AT MOST 1048576: true; the input reads as it did. -/
def mediumRunsUptoRow : OpenClaim := { program := "ytefidbfhcpcgjaa", sum := "14499adf1e9b6902e00323c68aa2956d0ace4223c108a379e435d8987702de7a", func := "cascade/cascadelaw23.MediumRuns", spec := "mediumRuns", apart := false, narrowed := true }
def MediumRunsUptoSaid : Prop := mediumRunsUptoRow.holds Try.pinned (OpenSpec.upto mediumRunsSpec)

/-- 'cascadelaw23.MediumKeeps', WHERE WHAT IT READS IS OF BULK AT MOST 1048576: true; the input reads as it did. -/
def mediumKeepsUptoRow : OpenClaim := { program := "ytefidbfhcpcgjaa", sum := "14499adf1e9b6902e00323c68aa2956d0ace4223c108a379e435d8987702de7a", func := "cascade/cascadelaw23.MediumKeeps", spec := "mediumKeeps", apart := false, narrowed := true }
def MediumKeepsUptoSaid : Prop := mediumKeepsUptoRow.holds Try.pinned (OpenSpec.upto mediumKeepsSpec)

/-- 'cascadelaw23.MediumCuts', WHERE WHAT IT READS IS OF BULK AT MOST 1048576: true; the input reads as it did. -/
def mediumCutsUptoRow : OpenClaim := { program := "ytefidbfhcpcgjaa", sum := "14499adf1e9b6902e00323c68aa2956d0ace4223c108a379e435d8987702de7a", func := "cascade/cascadelaw23.MediumCuts", spec := "mediumCuts", apart := false, narrowed := true }
def MediumCutsUptoSaid : Prop := mediumCutsUptoRow.holds Try.pinned (OpenSpec.upto mediumCutsSpec)

/-- 'cascadelaw23.MediumPlays', WHERE WHAT IT READS IS OF BULK AT MOST 1048576: true; the input reads as it did. -/
def mediumPlaysUptoRow : OpenClaim := { program := "ytefidbfhcpcgjaa", sum := "14499adf1e9b6902e00323c68aa2956d0ace4223c108a379e435d8987702de7a", func := "cascade/cascadelaw23.MediumPlays", spec := "mediumPlays", apart := false, narrowed := true }
def MediumPlaysUptoSaid : Prop := mediumPlaysUptoRow.holds Try.pinned (OpenSpec.upto mediumPlaysSpec)

/-- 'cascadelaw24.FrameBack', WHERE WHAT IT READS IS OF BULK AT MOST 1048576: true; the input reads as it did. -/
def frameBackUptoRow : OpenClaim := { program := "ytefidbfhcpcgjaa", sum := "14499adf1e9b6902e00323c68aa2956d0ace4223c108a379e435d8987702de7a", func := "cascade/cascadelaw24.FrameBack", spec := "frameBack", apart := false, narrowed := true }
def FrameBackUptoSaid : Prop := frameBackUptoRow.holds Try.pinned (OpenSpec.upto frameBackSpec)

/-- 'cascadelaw24.FrameOne', WHERE WHAT IT READS IS OF BULK AT MOST 1048576: true; the input reads as it did. -/
def frameOneUptoRow : OpenClaim := { program := "ytefidbfhcpcgjaa", sum := "14499adf1e9b6902e00323c68aa2956d0ace4223c108a379e435d8987702de7a", func := "cascade/cascadelaw24.FrameOne", spec := "frameOne", apart := false, narrowed := true }
def FrameOneUptoSaid : Prop := frameOneUptoRow.holds Try.pinned (OpenSpec.upto frameOneSpec)

/-- 'cascadelaw24.FrameAny', WHERE WHAT IT READS IS OF BULK AT MOST 1048576: true; the input reads as it did. -/
def frameAnyUptoRow : OpenClaim := { program := "ytefidbfhcpcgjaa", sum := "14499adf1e9b6902e00323c68aa2956d0ace4223c108a379e435d8987702de7a", func := "cascade/cascadelaw24.FrameAny", spec := "frameAny", apart := false, narrowed := true }
def FrameAnyUptoSaid : Prop := frameAnyUptoRow.holds Try.pinned (OpenSpec.upto frameAnySpec)

/-- 'cascadelaw24.FrameMany', WHERE WHAT IT READS IS OF BULK AT MOST 1048576: true; the input reads as it did. -/
def frameManyUptoRow : OpenClaim := { program := "ytefidbfhcpcgjaa", sum := "14499adf1e9b6902e00323c68aa2956d0ace4223c108a379e435d8987702de7a", func := "cascade/cascadelaw24.FrameMany", spec := "frameMany", apart := false, narrowed := true }
def FrameManyUptoSaid : Prop := frameManyUptoRow.holds Try.pinned (OpenSpec.upto frameManySpec)

/-- 'cascadelaw25.JournalRuns', WHERE WHAT IT READS IS OF BULK AT MOST 1048576: true; the input reads as it did. -/
def journalRunsUptoRow : OpenClaim := { program := "ytefidbfhcpcgjaa", sum := "14499adf1e9b6902e00323c68aa2956d0ace4223c108a379e435d8987702de7a", func := "cascade/cascadelaw25.JournalRuns", spec := "journalRuns", apart := false, narrowed := true }
def JournalRunsUptoSaid : Prop := journalRunsUptoRow.holds Try.pinned (OpenSpec.upto journalRunsSpec)

/-- 'cascadelaw25.JournalCrash', WHERE WHAT IT READS IS OF BULK AT MOST 1048576: true; the input reads as it did. -/
def journalCrashUptoRow : OpenClaim := { program := "ytefidbfhcpcgjaa", sum := "14499adf1e9b6902e00323c68aa2956d0ace4223c108a379e435d8987702de7a", func := "cascade/cascadelaw25.JournalCrash", spec := "journalCrash", apart := false, narrowed := true }
def JournalCrashUptoSaid : Prop := journalCrashUptoRow.holds Try.pinned (OpenSpec.upto journalCrashSpec)

/-- 'cascadelaw25.JournalDown', WHERE WHAT IT READS IS OF BULK AT MOST 1048576: true; the input reads as it did. -/
def journalDownUptoRow : OpenClaim := { program := "ytefidbfhcpcgjaa", sum := "14499adf1e9b6902e00323c68aa2956d0ace4223c108a379e435d8987702de7a", func := "cascade/cascadelaw25.JournalDown", spec := "journalDown", apart := false, narrowed := true }
def JournalDownUptoSaid : Prop := journalDownUptoRow.holds Try.pinned (OpenSpec.upto journalDownSpec)

/-- 'cascadelaw25.JournalTwo', WHERE WHAT IT READS IS OF BULK AT MOST 1048576: true; the input reads as it did. -/
def journalTwoUptoRow : OpenClaim := { program := "ytefidbfhcpcgjaa", sum := "14499adf1e9b6902e00323c68aa2956d0ace4223c108a379e435d8987702de7a", func := "cascade/cascadelaw25.JournalTwo", spec := "journalTwo", apart := false, narrowed := true }
def JournalTwoUptoSaid : Prop := journalTwoUptoRow.holds Try.pinned (OpenSpec.upto journalTwoSpec)

/-- 'cascadelaw25.JournalSpoilt', WHERE WHAT IT READS IS OF BULK AT MOST 1048576: true; the input reads as it did. -/
def journalSpoiltUptoRow : OpenClaim := { program := "ytefidbfhcpcgjaa", sum := "14499adf1e9b6902e00323c68aa2956d0ace4223c108a379e435d8987702de7a", func := "cascade/cascadelaw25.JournalSpoilt", spec := "journalSpoilt", apart := false, narrowed := true }
def JournalSpoiltUptoSaid : Prop := journalSpoiltUptoRow.holds Try.pinned (OpenSpec.upto journalSpoiltSpec)

end Rows
end Go.Proofs.Ytefidbfhcpcgjaa

/-
  No cell of these rows narrows 'for every input' (looked for: loops, veiled, ifaces, maps, wideKeys, modest, calm, conditions, laid).
  DERIVED. THE GIVEN ROWS OF THIS SEAT. 9 by the template 'for every input the law returns true; each argument reads behind the call as it read before'; 0 by the template 'total and deterministic' (their statements: YticddmmbphoioaaTotals.lean).
  GIVEN WITH THE SEED: the statements are not yours to turn. If you find one false, say at which input.
  Laid BY PROGRAM, IN A SANDBOX (cutbox-rows.mjs): the forced cells as the released guide's own fill.sh prints them over the translation d79d809628a43c11… (all of the seat's roots in one cut). By AI agents, Wed Nov 11 2026. No macro, syntax, notation, axiom, sorry.
-/
import Derived.Test.YticddmmbphoioaaChecked
import GoSem.Claim
import GoSem.ClaimJoined
import GoSem.ClaimMapViews
import Derived.JoinedTies
import Derived.KernelRfl
namespace Go.Proofs.Yticddmmbphoioaa
/- THE CELL 'sum', in the pinned program and in every row, IS THE sha256 OF THE DUMP (.gsa) THAT YticddmmbphoioaaProg.lean LOADS. Nothing in Lean hashes anything: it is a label: what it is worth is what the hold of that sum in a sandbox is worth. -/
noncomputable def Try.pinned : Pinned := { name := "yticddmmbphoioaa", sum := "d79d809628a43c1195a77812c8e18672ed04e1d46fca5f66a7100a16976d0bae", checked := Try.checked }
namespace Rows
def none {H : Type} : Left H := { results := [], args := [] }

/-- 'cascadelaw16.ModeRuns': WHATEVER THE INPUT: true; the input reads as it did. -/
def modeRunsSpec : ChangeSpec := { name := "modeRuns", fn := fun _ => fun
  | [] => { results := [.lit (.bool true)], args := [] }
  | _ => none }
def modeRunsRow : OpenClaim := { program := "yticddmmbphoioaa", sum := "d79d809628a43c1195a77812c8e18672ed04e1d46fca5f66a7100a16976d0bae", func := "cascade/cascadelaw16.ModeRuns", spec := "modeRuns", apart := false }
def ModeRunsSaid : Prop := modeRunsRow.holds Try.pinned (OpenSpec.ofChange modeRunsSpec)

/-- ITS FALSE NEIGHBOUR: 'it returns false'. Refute it at one input. -/
def modeRunsWrong : ChangeSpec := { name := "modeRuns", fn := fun _ => fun
  | [] => { results := [.lit (.bool false)], args := [] }
  | _ => none }
def ModeRunsWrongFalsely : Prop := modeRunsRow.holds Try.pinned (OpenSpec.ofChange modeRunsWrong)

/-- 'cascadelaw16.ModeCures': WHATEVER THE INPUT: true; the input reads as it did. -/
def modeCuresSpec : ChangeSpec := { name := "modeCures", fn := fun _ => fun
  | [d1, d2, d3] => { results := [.lit (.bool true)], args := [d1, d2, d3] }
  | _ => none }
def modeCuresRow : OpenClaim := { program := "yticddmmbphoioaa", sum := "d79d809628a43c1195a77812c8e18672ed04e1d46fca5f66a7100a16976d0bae", func := "cascade/cascadelaw16.ModeCures", spec := "modeCures", apart := false }
def ModeCuresSaid : Prop := modeCuresRow.holds Try.pinned (OpenSpec.ofChange modeCuresSpec)

/-- ITS FALSE NEIGHBOUR: 'it returns false'. Refute it at one input. -/
def modeCuresWrong : ChangeSpec := { name := "modeCures", fn := fun _ => fun
  | [d1, d2, d3] => { results := [.lit (.bool false)], args := [d1, d2, d3] }
  | _ => none }
def ModeCuresWrongFalsely : Prop := modeCuresRow.holds Try.pinned (OpenSpec.ofChange modeCuresWrong)

/-- 'cascadelaw5.PurseRuns': WHATEVER THE INPUT: true; the input reads as it did. -/
def purseRunsSpec : ChangeSpec := { name := "purseRuns", fn := fun _ => fun
  | [] => { results := [.lit (.bool true)], args := [] }
  | _ => none }
def purseRunsRow : OpenClaim := { program := "yticddmmbphoioaa", sum := "d79d809628a43c1195a77812c8e18672ed04e1d46fca5f66a7100a16976d0bae", func := "cascade/cascadelaw5.PurseRuns", spec := "purseRuns", apart := false }
def PurseRunsSaid : Prop := purseRunsRow.holds Try.pinned (OpenSpec.ofChange purseRunsSpec)

/-- ITS FALSE NEIGHBOUR: 'it returns false'. Refute it at one input. -/
def purseRunsWrong : ChangeSpec := { name := "purseRuns", fn := fun _ => fun
  | [] => { results := [.lit (.bool false)], args := [] }
  | _ => none }
def PurseRunsWrongFalsely : Prop := purseRunsRow.holds Try.pinned (OpenSpec.ofChange purseRunsWrong)

/-- 'cascadelaw5.PurseCopies': WHATEVER THE INPUT: true; the input reads as it did. -/
def purseCopiesSpec : ChangeSpec := { name := "purseCopies", fn := fun _ => fun
  | [d1, d2, d3] => { results := [.lit (.bool true)], args := [d1, d2, d3] }
  | _ => none }
def purseCopiesRow : OpenClaim := { program := "yticddmmbphoioaa", sum := "d79d809628a43c1195a77812c8e18672ed04e1d46fca5f66a7100a16976d0bae", func := "cascade/cascadelaw5.PurseCopies", spec := "purseCopies", apart := false }
def PurseCopiesSaid : Prop := purseCopiesRow.holds Try.pinned (OpenSpec.ofChange purseCopiesSpec)

/-- ITS FALSE NEIGHBOUR: 'it returns false'. Refute it at one input. -/
def purseCopiesWrong : ChangeSpec := { name := "purseCopies", fn := fun _ => fun
  | [d1, d2, d3] => { results := [.lit (.bool false)], args := [d1, d2, d3] }
  | _ => none }
def PurseCopiesWrongFalsely : Prop := purseCopiesRow.holds Try.pinned (OpenSpec.ofChange purseCopiesWrong)

/-- 'cascadelaw16.ModeTells': WHATEVER THE INPUT: true; the input reads as it did. -/
def modeTellsSpec : ChangeSpec := { name := "modeTells", fn := fun _ => fun
  | [d1, d2, d3, d4] => { results := [.lit (.bool true)], args := [d1, d2, d3, d4] }
  | _ => none }
def modeTellsRow : OpenClaim := { program := "yticddmmbphoioaa", sum := "d79d809628a43c1195a77812c8e18672ed04e1d46fca5f66a7100a16976d0bae", func := "cascade/cascadelaw16.ModeTells", spec := "modeTells", apart := false }
def ModeTellsSaid : Prop := modeTellsRow.holds Try.pinned (OpenSpec.ofChange modeTellsSpec)

/-- ITS FALSE NEIGHBOUR: 'it returns false'. Refute it at one input. -/
def modeTellsWrong : ChangeSpec := { name := "modeTells", fn := fun _ => fun
  | [d1, d2, d3, d4] => { results := [.lit (.bool false)], args := [d1, d2, d3, d4] }
  | _ => none }
def ModeTellsWrongFalsely : Prop := modeTellsRow.holds Try.pinned (OpenSpec.ofChange modeTellsWrong)

/-- 'cascadelaw16.ModeLonger': WHATEVER THE INPUT: true; the input reads as it did. -/
def modeLongerSpec : ChangeSpec := { name := "modeLonger", fn := fun _ => fun
  | [d1, d2, d3, d4, d5] => { results := [.lit (.bool true)], args := [d1, d2, d3, d4, d5] }
  | _ => none }
def modeLongerRow : OpenClaim := { program := "yticddmmbphoioaa", sum := "d79d809628a43c1195a77812c8e18672ed04e1d46fca5f66a7100a16976d0bae", func := "cascade/cascadelaw16.ModeLonger", spec := "modeLonger", apart := false }
def ModeLongerSaid : Prop := modeLongerRow.holds Try.pinned (OpenSpec.ofChange modeLongerSpec)

/-- ITS FALSE NEIGHBOUR: 'it returns false'. Refute it at one input. -/
def modeLongerWrong : ChangeSpec := { name := "modeLonger", fn := fun _ => fun
  | [d1, d2, d3, d4, d5] => { results := [.lit (.bool false)], args := [d1, d2, d3, d4, d5] }
  | _ => none }
def ModeLongerWrongFalsely : Prop := modeLongerRow.holds Try.pinned (OpenSpec.ofChange modeLongerWrong)

/-- 'cascadelaw5.PurseMoves': WHATEVER THE INPUT: true; the input reads as it did. -/
def purseMovesSpec : ChangeSpec := { name := "purseMoves", fn := fun _ => fun
  | [d1, d2, d3, d4] => { results := [.lit (.bool true)], args := [d1, d2, d3, d4] }
  | _ => none }
def purseMovesRow : OpenClaim := { program := "yticddmmbphoioaa", sum := "d79d809628a43c1195a77812c8e18672ed04e1d46fca5f66a7100a16976d0bae", func := "cascade/cascadelaw5.PurseMoves", spec := "purseMoves", apart := false }
def PurseMovesSaid : Prop := purseMovesRow.holds Try.pinned (OpenSpec.ofChange purseMovesSpec)

/-- ITS FALSE NEIGHBOUR: 'it returns false'. Refute it at one input. -/
def purseMovesWrong : ChangeSpec := { name := "purseMoves", fn := fun _ => fun
  | [d1, d2, d3, d4] => { results := [.lit (.bool false)], args := [d1, d2, d3, d4] }
  | _ => none }
def PurseMovesWrongFalsely : Prop := purseMovesRow.holds Try.pinned (OpenSpec.ofChange purseMovesWrong)

/-- 'cascadelaw5.PurseChain': WHATEVER THE INPUT: true; the input reads as it did. -/
def purseChainSpec : ChangeSpec := { name := "purseChain", fn := fun _ => fun
  | [d1, d2] => { results := [.lit (.bool true)], args := [d1, d2] }
  | _ => none }
def purseChainRow : OpenClaim := { program := "yticddmmbphoioaa", sum := "d79d809628a43c1195a77812c8e18672ed04e1d46fca5f66a7100a16976d0bae", func := "cascade/cascadelaw5.PurseChain", spec := "purseChain", apart := false }
def PurseChainSaid : Prop := purseChainRow.holds Try.pinned (OpenSpec.ofChange purseChainSpec)

/-- ITS FALSE NEIGHBOUR: 'it returns false'. Refute it at one input. -/
def purseChainWrong : ChangeSpec := { name := "purseChain", fn := fun _ => fun
  | [d1, d2] => { results := [.lit (.bool false)], args := [d1, d2] }
  | _ => none }
def PurseChainWrongFalsely : Prop := purseChainRow.holds Try.pinned (OpenSpec.ofChange purseChainWrong)

/-- 'cascadelaw5.PursePlays': WHATEVER THE INPUT: true; the input reads as it did. -/
def pursePlaysSpec : ChangeSpec := { name := "pursePlays", fn := fun _ => fun
  | [d1, d2, d3] => { results := [.lit (.bool true)], args := [d1, d2, d3] }
  | _ => none }
def pursePlaysRow : OpenClaim := { program := "yticddmmbphoioaa", sum := "d79d809628a43c1195a77812c8e18672ed04e1d46fca5f66a7100a16976d0bae", func := "cascade/cascadelaw5.PursePlays", spec := "pursePlays", apart := false }
def PursePlaysSaid : Prop := pursePlaysRow.holds Try.pinned (OpenSpec.ofChange pursePlaysSpec)

/-- ITS FALSE NEIGHBOUR: 'it returns false'. Refute it at one input. -/
def pursePlaysWrong : ChangeSpec := { name := "pursePlays", fn := fun _ => fun
  | [d1, d2, d3] => { results := [.lit (.bool false)], args := [d1, d2, d3] }
  | _ => none }
def PursePlaysWrongFalsely : Prop := pursePlaysRow.holds Try.pinned (OpenSpec.ofChange pursePlaysWrong)

/- THE SECOND FORM. 'bulk': how many values and letters a reading holds, each counted each time it is reached (what is shared counts as often as it is met; a slice's spare places count too). A statement '..UptoSaid' is the law's where the arguments, and the package variables that the reading takes, are together of bulk at most 1048576: NARROWER than '..Said'. Prove '..Said' where nothing that the law and all that it calls make is longer than what came in: it says more and counts as full. Else prove '..UptoSaid'. A law counts once. -/
mutual
def uptoBulk {H : Type} : DataW H → Nat
  | .lit (.string bytes) => bytes.length + 1
  | .lit _ => 1
  | .nil => 1
  | .ptr d => uptoBulk d + 1
  | .slice elems spare => uptoBulkAll elems + uptoBulkAll spare + 1
  | .agg parts => uptoBulkAll parts + 1
  | .iface _ d => uptoBulk d + 1
  | .map entries => uptoBulkEntries entries + 1
  | .held _ => 1
def uptoBulkAll {H : Type} : List (DataW H) → Nat
  | [] => 0
  | d :: r => uptoBulk d + uptoBulkAll r
def uptoBulkEntries {H : Type} : List (Lit × DataW H) → Nat
  | [] => 0
  | x :: r => uptoBulkEntry x + uptoBulkEntries r
def uptoBulkEntry {H : Type} : Lit × DataW H → Nat
  | (.string bytes, d) => bytes.length + uptoBulk d + 1
  | (_, d) => uptoBulk d + 1
 end
def uptoSmall : (H : Type) → List (DataW H) → Bool := fun _ ds => decide (uptoBulkAll ds ≤ 1048576)
def OpenSpec.upto (s : _root_.Go.ChangeSpec) : _root_.Go.OpenSpec := { _root_.Go.OpenSpec.ofChange s with cond := some uptoSmall }

/-- 'cascadelaw16.ModeRuns', WHERE WHAT IT READS IS OF BULK AT MOST 1048576: true; the input reads as it did. -/
def modeRunsUptoRow : OpenClaim := { program := "yticddmmbphoioaa", sum := "d79d809628a43c1195a77812c8e18672ed04e1d46fca5f66a7100a16976d0bae", func := "cascade/cascadelaw16.ModeRuns", spec := "modeRuns", apart := false, narrowed := true }
def ModeRunsUptoSaid : Prop := modeRunsUptoRow.holds Try.pinned (OpenSpec.upto modeRunsSpec)

/-- 'cascadelaw16.ModeCures', WHERE WHAT IT READS IS OF BULK AT MOST 1048576: true; the input reads as it did. -/
def modeCuresUptoRow : OpenClaim := { program := "yticddmmbphoioaa", sum := "d79d809628a43c1195a77812c8e18672ed04e1d46fca5f66a7100a16976d0bae", func := "cascade/cascadelaw16.ModeCures", spec := "modeCures", apart := false, narrowed := true }
def ModeCuresUptoSaid : Prop := modeCuresUptoRow.holds Try.pinned (OpenSpec.upto modeCuresSpec)

/-- 'cascadelaw5.PurseRuns', WHERE WHAT IT READS IS OF BULK AT MOST 1048576: true; the input reads as it did. -/
def purseRunsUptoRow : OpenClaim := { program := "yticddmmbphoioaa", sum := "d79d809628a43c1195a77812c8e18672ed04e1d46fca5f66a7100a16976d0bae", func := "cascade/cascadelaw5.PurseRuns", spec := "purseRuns", apart := false, narrowed := true }
def PurseRunsUptoSaid : Prop := purseRunsUptoRow.holds Try.pinned (OpenSpec.upto purseRunsSpec)

/-- 'cascadelaw5.PurseCopies', WHERE WHAT IT READS IS OF BULK AT MOST 1048576: true; the input reads as it did. -/
def purseCopiesUptoRow : OpenClaim := { program := "yticddmmbphoioaa", sum := "d79d809628a43c1195a77812c8e18672ed04e1d46fca5f66a7100a16976d0bae", func := "cascade/cascadelaw5.PurseCopies", spec := "purseCopies", apart := false, narrowed := true }
def PurseCopiesUptoSaid : Prop := purseCopiesUptoRow.holds Try.pinned (OpenSpec.upto purseCopiesSpec)

/-- 'cascadelaw16.ModeTells', WHERE WHAT IT READS IS OF BULK AT MOST 1048576: true; the input reads as it did. -/
def modeTellsUptoRow : OpenClaim := { program := "yticddmmbphoioaa", sum := "d79d809628a43c1195a77812c8e18672ed04e1d46fca5f66a7100a16976d0bae", func := "cascade/cascadelaw16.ModeTells", spec := "modeTells", apart := false, narrowed := true }
def ModeTellsUptoSaid : Prop := modeTellsUptoRow.holds Try.pinned (OpenSpec.upto modeTellsSpec)

/-- 'cascadelaw16.ModeLonger', WHERE WHAT IT READS IS OF BULK AT MOST 1048576: true; the input reads as it did. -/
def modeLongerUptoRow : OpenClaim := { program := "yticddmmbphoioaa", sum := "d79d809628a43c1195a77812c8e18672ed04e1d46fca5f66a7100a16976d0bae", func := "cascade/cascadelaw16.ModeLonger", spec := "modeLonger", apart := false, narrowed := true }
def ModeLongerUptoSaid : Prop := modeLongerUptoRow.holds Try.pinned (OpenSpec.upto modeLongerSpec)

/-- 'cascadelaw5.PurseMoves', WHERE WHAT IT READS IS OF BULK AT MOST 1048576: true; the input reads as it did. -/
def purseMovesUptoRow : OpenClaim := { program := "yticddmmbphoioaa", sum := "d79d809628a43c1195a77812c8e18672ed04e1d46fca5f66a7100a16976d0bae", func := "cascade/cascadelaw5.PurseMoves", spec := "purseMoves", apart := false, narrowed := true }
def PurseMovesUptoSaid : Prop := purseMovesUptoRow.holds Try.pinned (OpenSpec.upto purseMovesSpec)

/-- 'cascadelaw5.PurseChain', WHERE WHAT IT READS IS OF BULK AT MOST 1048576: true; the input reads as it did. -/
def purseChainUptoRow : OpenClaim := { program := "yticddmmbphoioaa", sum := "d79d809628a43c1195a77812c8e18672ed04e1d46fca5f66a7100a16976d0bae", func := "cascade/cascadelaw5.PurseChain", spec := "purseChain", apart := false, narrowed := true }
def PurseChainUptoSaid : Prop := purseChainUptoRow.holds Try.pinned (OpenSpec.upto purseChainSpec)

/-- 'cascadelaw5.PursePlays', WHERE WHAT IT READS IS OF BULK AT MOST 1048576: true; the input reads as it did. -/
def pursePlaysUptoRow : OpenClaim := { program := "yticddmmbphoioaa", sum := "d79d809628a43c1195a77812c8e18672ed04e1d46fca5f66a7100a16976d0bae", func := "cascade/cascadelaw5.PursePlays", spec := "pursePlays", apart := false, narrowed := true }
def PursePlaysUptoSaid : Prop := pursePlaysUptoRow.holds Try.pinned (OpenSpec.upto pursePlaysSpec)

end Rows
end Go.Proofs.Yticddmmbphoioaa

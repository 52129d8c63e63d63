/-
  NARROWER THAN 'FOR EVERY INPUT', by the rows' own cells (each row's printed sentence says how): CaretsSettle: laid · CaretsMove: laid · WordsRuns: laid · WordsTabs: laid · CaretsNames: laid · CaretsMemory: laid · CaretsType: laid · CaretsRub: laid.
  DERIVED. THE GIVEN ROWS OF THIS SEAT. 8 by the template 'for every input the law returns true; each argument reads behind the call as it read before'; 0 by the template 'total and deterministic' (their statements: YtijbkiajhicooabDoorTotals.lean).
  GIVEN WITH THE SEED: the statements are not yours to turn. If you find one false, say at which input.
  Laid BY PROGRAM, IN A SANDBOX (cutbox-rows.mjs): the forced cells as the released guide's own fill.sh prints them over the translation b4d130331e62e219… (all of the seat's roots in one cut). By AI agents, Wed Nov 11 2026. No macro, syntax, notation, axiom, sorry.
-/
import Derived.Test.YtijbkiajhicooabDoorChecked
import GoSem.Claim
import GoSem.ClaimJoined
import GoSem.ClaimMapViews
import Derived.JoinedTies
import Derived.KernelRfl
namespace Go.Proofs.YtijbkiajhicooabDoor
/- THE CELL 'sum', in the pinned program and in every row, IS THE sha256 OF THE DUMP (.gsa) THAT YtijbkiajhicooabDoorProg.lean LOADS. Nothing in Lean hashes anything: it is a label: what it is worth is what the hold of that sum in a sandbox is worth. -/
noncomputable def Tryd.pinned : Pinned := { name := "ytijbkiajhicooabdoor", sum := "b4d130331e62e219140624b9247bde83ca4b27ef4e813e84baf739c87ce35cca", checked := Tryd.checked }
namespace Rows
def none {H : Type} : Left H := { results := [], args := [] }

/- WHAT THE LISTED PACKAGE-LEVEL VARIABLES READ AS WHEN THE CALL BEGINS. Each datum BY PROGRAM (the guide's laid-datum.mjs) off the statement by which the dump's own 'gosem.cut.vars' lays the variable. In a bare row this is a premise. The card (YtijbkiajhicooabDoorCards.lean) ties it to the program's text. -/
def laid_galley_step_bad {H : Type} : DataW H := .agg [.lit (.int .i32 65533), .lit (.int .i64 1), .lit (.bool false)]

/-- 'galleylaw33.CaretsSettle': WHATEVER THE INPUT: true; the input reads as it did. -/
def caretsSettleSpec : ChangeSpec := { name := "caretsSettle", fn := fun _ => fun
  | [d1, d2] => { results := [.lit (.bool true)], args := [d1, d2] }
  | _ => none }
def caretsSettleRow : OpenClaim := { program := "ytijbkiajhicooabdoor", sum := "b4d130331e62e219140624b9247bde83ca4b27ef4e813e84baf739c87ce35cca", func := "galley/galleylaw33.CaretsSettle", spec := "caretsSettle", unfollowed := true, recurses := true, named := ["galley/step.bad"], apart := false, laid := [("galley/step.bad", laid_galley_step_bad)] }
def CaretsSettleSaid : Prop := caretsSettleRow.holds Tryd.pinned (OpenSpec.ofChange caretsSettleSpec)

/-- ITS FALSE NEIGHBOUR: 'it returns false'. Refute it at one input. -/
def caretsSettleWrong : ChangeSpec := { name := "caretsSettle", fn := fun _ => fun
  | [d1, d2] => { results := [.lit (.bool false)], args := [d1, d2] }
  | _ => none }
def CaretsSettleWrongFalsely : Prop := caretsSettleRow.holds Tryd.pinned (OpenSpec.ofChange caretsSettleWrong)

/-- 'galleylaw33.CaretsMove': WHATEVER THE INPUT: true; the input reads as it did. -/
def caretsMoveSpec : ChangeSpec := { name := "caretsMove", fn := fun _ => fun
  | [d1, d2, d3] => { results := [.lit (.bool true)], args := [d1, d2, d3] }
  | _ => none }
def caretsMoveRow : OpenClaim := { program := "ytijbkiajhicooabdoor", sum := "b4d130331e62e219140624b9247bde83ca4b27ef4e813e84baf739c87ce35cca", func := "galley/galleylaw33.CaretsMove", spec := "caretsMove", unfollowed := true, recurses := true, named := ["galley/step.bad"], apart := false, laid := [("galley/step.bad", laid_galley_step_bad)] }
def CaretsMoveSaid : Prop := caretsMoveRow.holds Tryd.pinned (OpenSpec.ofChange caretsMoveSpec)

/-- ITS FALSE NEIGHBOUR: 'it returns false'. Refute it at one input. -/
def caretsMoveWrong : ChangeSpec := { name := "caretsMove", fn := fun _ => fun
  | [d1, d2, d3] => { results := [.lit (.bool false)], args := [d1, d2, d3] }
  | _ => none }
def CaretsMoveWrongFalsely : Prop := caretsMoveRow.holds Tryd.pinned (OpenSpec.ofChange caretsMoveWrong)

/-- 'galleylaw22.WordsRuns': WHATEVER THE INPUT: true; the input reads as it did. -/
def wordsRunsSpec : ChangeSpec := { name := "wordsRuns", fn := fun _ => fun
  | [d] => { results := [.lit (.bool true)], args := [d] }
  | _ => none }
def wordsRunsRow : OpenClaim := { program := "ytijbkiajhicooabdoor", sum := "b4d130331e62e219140624b9247bde83ca4b27ef4e813e84baf739c87ce35cca", func := "galley/galleylaw22.WordsRuns", spec := "wordsRuns", unfollowed := true, recurses := true, named := ["galley/step.bad"], apart := false, laid := [("galley/step.bad", laid_galley_step_bad)] }
def WordsRunsSaid : Prop := wordsRunsRow.holds Tryd.pinned (OpenSpec.ofChange wordsRunsSpec)

/-- ITS FALSE NEIGHBOUR: 'it returns false'. Refute it at one input. -/
def wordsRunsWrong : ChangeSpec := { name := "wordsRuns", fn := fun _ => fun
  | [d] => { results := [.lit (.bool false)], args := [d] }
  | _ => none }
def WordsRunsWrongFalsely : Prop := wordsRunsRow.holds Tryd.pinned (OpenSpec.ofChange wordsRunsWrong)

/-- 'galleylaw22.WordsTabs': WHATEVER THE INPUT: true; the input reads as it did. -/
def wordsTabsSpec : ChangeSpec := { name := "wordsTabs", fn := fun _ => fun
  | [d1, d2] => { results := [.lit (.bool true)], args := [d1, d2] }
  | _ => none }
def wordsTabsRow : OpenClaim := { program := "ytijbkiajhicooabdoor", sum := "b4d130331e62e219140624b9247bde83ca4b27ef4e813e84baf739c87ce35cca", func := "galley/galleylaw22.WordsTabs", spec := "wordsTabs", unfollowed := true, recurses := true, named := ["galley/step.bad"], apart := false, laid := [("galley/step.bad", laid_galley_step_bad)] }
def WordsTabsSaid : Prop := wordsTabsRow.holds Tryd.pinned (OpenSpec.ofChange wordsTabsSpec)

/-- ITS FALSE NEIGHBOUR: 'it returns false'. Refute it at one input. -/
def wordsTabsWrong : ChangeSpec := { name := "wordsTabs", fn := fun _ => fun
  | [d1, d2] => { results := [.lit (.bool false)], args := [d1, d2] }
  | _ => none }
def WordsTabsWrongFalsely : Prop := wordsTabsRow.holds Tryd.pinned (OpenSpec.ofChange wordsTabsWrong)

/-- 'galleylaw33.CaretsNames': WHATEVER THE INPUT: true; the input reads as it did. -/
def caretsNamesSpec : ChangeSpec := { name := "caretsNames", fn := fun _ => fun
  | [] => { results := [.lit (.bool true)], args := [] }
  | _ => none }
def caretsNamesRow : OpenClaim := { program := "ytijbkiajhicooabdoor", sum := "b4d130331e62e219140624b9247bde83ca4b27ef4e813e84baf739c87ce35cca", func := "galley/galleylaw33.CaretsNames", spec := "caretsNames", unfollowed := true, recurses := true, named := ["galley/step.bad"], apart := false, laid := [("galley/step.bad", laid_galley_step_bad)] }
def CaretsNamesSaid : Prop := caretsNamesRow.holds Tryd.pinned (OpenSpec.ofChange caretsNamesSpec)

/-- ITS FALSE NEIGHBOUR: 'it returns false'. Refute it at one input. -/
def caretsNamesWrong : ChangeSpec := { name := "caretsNames", fn := fun _ => fun
  | [] => { results := [.lit (.bool false)], args := [] }
  | _ => none }
def CaretsNamesWrongFalsely : Prop := caretsNamesRow.holds Tryd.pinned (OpenSpec.ofChange caretsNamesWrong)

/-- 'galleylaw33.CaretsMemory': WHATEVER THE INPUT: true; the input reads as it did. -/
def caretsMemorySpec : ChangeSpec := { name := "caretsMemory", fn := fun _ => fun
  | [d1, d2, d3] => { results := [.lit (.bool true)], args := [d1, d2, d3] }
  | _ => none }
def caretsMemoryRow : OpenClaim := { program := "ytijbkiajhicooabdoor", sum := "b4d130331e62e219140624b9247bde83ca4b27ef4e813e84baf739c87ce35cca", func := "galley/galleylaw33.CaretsMemory", spec := "caretsMemory", unfollowed := true, recurses := true, named := ["galley/step.bad"], apart := false, laid := [("galley/step.bad", laid_galley_step_bad)] }
def CaretsMemorySaid : Prop := caretsMemoryRow.holds Tryd.pinned (OpenSpec.ofChange caretsMemorySpec)

/-- ITS FALSE NEIGHBOUR: 'it returns false'. Refute it at one input. -/
def caretsMemoryWrong : ChangeSpec := { name := "caretsMemory", fn := fun _ => fun
  | [d1, d2, d3] => { results := [.lit (.bool false)], args := [d1, d2, d3] }
  | _ => none }
def CaretsMemoryWrongFalsely : Prop := caretsMemoryRow.holds Tryd.pinned (OpenSpec.ofChange caretsMemoryWrong)

/-- 'galleylaw33.CaretsType': WHATEVER THE INPUT: true; the input reads as it did. -/
def caretsTypeSpec : ChangeSpec := { name := "caretsType", fn := fun _ => fun
  | [d1, d2, d3] => { results := [.lit (.bool true)], args := [d1, d2, d3] }
  | _ => none }
def caretsTypeRow : OpenClaim := { program := "ytijbkiajhicooabdoor", sum := "b4d130331e62e219140624b9247bde83ca4b27ef4e813e84baf739c87ce35cca", func := "galley/galleylaw33.CaretsType", spec := "caretsType", unfollowed := true, recurses := true, named := ["galley/step.bad"], apart := false, laid := [("galley/step.bad", laid_galley_step_bad)] }
def CaretsTypeSaid : Prop := caretsTypeRow.holds Tryd.pinned (OpenSpec.ofChange caretsTypeSpec)

/-- ITS FALSE NEIGHBOUR: 'it returns false'. Refute it at one input. -/
def caretsTypeWrong : ChangeSpec := { name := "caretsType", fn := fun _ => fun
  | [d1, d2, d3] => { results := [.lit (.bool false)], args := [d1, d2, d3] }
  | _ => none }
def CaretsTypeWrongFalsely : Prop := caretsTypeRow.holds Tryd.pinned (OpenSpec.ofChange caretsTypeWrong)

/-- 'galleylaw33.CaretsRub': WHATEVER THE INPUT: true; the input reads as it did. -/
def caretsRubSpec : ChangeSpec := { name := "caretsRub", fn := fun _ => fun
  | [d1, d2] => { results := [.lit (.bool true)], args := [d1, d2] }
  | _ => none }
def caretsRubRow : OpenClaim := { program := "ytijbkiajhicooabdoor", sum := "b4d130331e62e219140624b9247bde83ca4b27ef4e813e84baf739c87ce35cca", func := "galley/galleylaw33.CaretsRub", spec := "caretsRub", unfollowed := true, recurses := true, named := ["galley/step.bad"], apart := false, laid := [("galley/step.bad", laid_galley_step_bad)] }
def CaretsRubSaid : Prop := caretsRubRow.holds Tryd.pinned (OpenSpec.ofChange caretsRubSpec)

/-- ITS FALSE NEIGHBOUR: 'it returns false'. Refute it at one input. -/
def caretsRubWrong : ChangeSpec := { name := "caretsRub", fn := fun _ => fun
  | [d1, d2] => { results := [.lit (.bool false)], args := [d1, d2] }
  | _ => none }
def CaretsRubWrongFalsely : Prop := caretsRubRow.holds Tryd.pinned (OpenSpec.ofChange caretsRubWrong)

/- THE SECOND FORM. 'bulk': how many values and letters a reading holds, each counted each time it is reached (what is shared counts as often as it is met; a slice's spare places count too). A statement '..UptoSaid' is the law's where the arguments, and the package variables that the reading takes, are together of bulk at most 1048576: NARROWER than '..Said'. Prove '..Said' where nothing that the law and all that it calls make is longer than what came in: it says more and counts as full. Else prove '..UptoSaid'. A law counts once. -/
mutual
def uptoBulk {H : Type} : DataW H → Nat
  | .lit (.string bytes) => bytes.length + 1
  | .lit _ => 1
  | .nil => 1
  | .ptr d => uptoBulk d + 1
  | .slice elems spare => uptoBulkAll elems + uptoBulkAll spare + 1
  | .agg parts => uptoBulkAll parts + 1
  | .iface _ d => uptoBulk d + 1
  | .map entries => uptoBulkEntries entries + 1
  | .held _ => 1
def uptoBulkAll {H : Type} : List (DataW H) → Nat
  | [] => 0
  | d :: r => uptoBulk d + uptoBulkAll r
def uptoBulkEntries {H : Type} : List (Lit × DataW H) → Nat
  | [] => 0
  | x :: r => uptoBulkEntry x + uptoBulkEntries r
def uptoBulkEntry {H : Type} : Lit × DataW H → Nat
  | (.string bytes, d) => bytes.length + uptoBulk d + 1
  | (_, d) => uptoBulk d + 1
 end
def uptoSmall : (H : Type) → List (DataW H) → Bool := fun _ ds => decide (uptoBulkAll ds ≤ 1048576)
def OpenSpec.upto (s : _root_.Go.ChangeSpec) : _root_.Go.OpenSpec := { _root_.Go.OpenSpec.ofChange s with cond := some uptoSmall }

/-- 'galleylaw33.CaretsSettle', WHERE WHAT IT READS IS OF BULK AT MOST 1048576: true; the input reads as it did. -/
def caretsSettleUptoRow : OpenClaim := { program := "ytijbkiajhicooabdoor", sum := "b4d130331e62e219140624b9247bde83ca4b27ef4e813e84baf739c87ce35cca", func := "galley/galleylaw33.CaretsSettle", spec := "caretsSettle", unfollowed := true, recurses := true, named := ["galley/step.bad"], apart := false, laid := [("galley/step.bad", laid_galley_step_bad)], narrowed := true }
def CaretsSettleUptoSaid : Prop := caretsSettleUptoRow.holds Tryd.pinned (OpenSpec.upto caretsSettleSpec)

/-- 'galleylaw33.CaretsMove', WHERE WHAT IT READS IS OF BULK AT MOST 1048576: true; the input reads as it did. -/
def caretsMoveUptoRow : OpenClaim := { program := "ytijbkiajhicooabdoor", sum := "b4d130331e62e219140624b9247bde83ca4b27ef4e813e84baf739c87ce35cca", func := "galley/galleylaw33.CaretsMove", spec := "caretsMove", unfollowed := true, recurses := true, named := ["galley/step.bad"], apart := false, laid := [("galley/step.bad", laid_galley_step_bad)], narrowed := true }
def CaretsMoveUptoSaid : Prop := caretsMoveUptoRow.holds Tryd.pinned (OpenSpec.upto caretsMoveSpec)

/-- 'galleylaw22.WordsRuns', WHERE WHAT IT READS IS OF BULK AT MOST 1048576: true; the input reads as it did. -/
def wordsRunsUptoRow : OpenClaim := { program := "ytijbkiajhicooabdoor", sum := "b4d130331e62e219140624b9247bde83ca4b27ef4e813e84baf739c87ce35cca", func := "galley/galleylaw22.WordsRuns", spec := "wordsRuns", unfollowed := true, recurses := true, named := ["galley/step.bad"], apart := false, laid := [("galley/step.bad", laid_galley_step_bad)], narrowed := true }
def WordsRunsUptoSaid : Prop := wordsRunsUptoRow.holds Tryd.pinned (OpenSpec.upto wordsRunsSpec)

/-- 'galleylaw22.WordsTabs', WHERE WHAT IT READS IS OF BULK AT MOST 1048576: true; the input reads as it did. -/
def wordsTabsUptoRow : OpenClaim := { program := "ytijbkiajhicooabdoor", sum := "b4d130331e62e219140624b9247bde83ca4b27ef4e813e84baf739c87ce35cca", func := "galley/galleylaw22.WordsTabs", spec := "wordsTabs", unfollowed := true, recurses := true, named := ["galley/step.bad"], apart := false, laid := [("galley/step.bad", laid_galley_step_bad)], narrowed := true }
def WordsTabsUptoSaid : Prop := wordsTabsUptoRow.holds Tryd.pinned (OpenSpec.upto wordsTabsSpec)

/-- 'galleylaw33.CaretsNames', WHERE WHAT IT READS IS OF BULK AT MOST 1048576: true; the input reads as it did. -/
def caretsNamesUptoRow : OpenClaim := { program := "ytijbkiajhicooabdoor", sum := "b4d130331e62e219140624b9247bde83ca4b27ef4e813e84baf739c87ce35cca", func := "galley/galleylaw33.CaretsNames", spec := "caretsNames", unfollowed := true, recurses := true, named := ["galley/step.bad"], apart := false, laid := [("galley/step.bad", laid_galley_step_bad)], narrowed := true }
def CaretsNamesUptoSaid : Prop := caretsNamesUptoRow.holds Tryd.pinned (OpenSpec.upto caretsNamesSpec)

/-- 'galleylaw33.CaretsMemory', WHERE WHAT IT READS IS OF BULK AT MOST 1048576: true; the input reads as it did. -/
def caretsMemoryUptoRow : OpenClaim := { program := "ytijbkiajhicooabdoor", sum := "b4d130331e62e219140624b9247bde83ca4b27ef4e813e84baf739c87ce35cca", func := "galley/galleylaw33.CaretsMemory", spec := "caretsMemory", unfollowed := true, recurses := true, named := ["galley/step.bad"], apart := false, laid := [("galley/step.bad", laid_galley_step_bad)], narrowed := true }
def CaretsMemoryUptoSaid : Prop := caretsMemoryUptoRow.holds Tryd.pinned (OpenSpec.upto caretsMemorySpec)

/-- 'galleylaw33.CaretsType', WHERE WHAT IT READS IS OF BULK AT MOST 1048576: true; the input reads as it did. -/
def caretsTypeUptoRow : OpenClaim := { program := "ytijbkiajhicooabdoor", sum := "b4d130331e62e219140624b9247bde83ca4b27ef4e813e84baf739c87ce35cca", func := "galley/galleylaw33.CaretsType", spec := "caretsType", unfollowed := true, recurses := true, named := ["galley/step.bad"], apart := false, laid := [("galley/step.bad", laid_galley_step_bad)], narrowed := true }
def CaretsTypeUptoSaid : Prop := caretsTypeUptoRow.holds Tryd.pinned (OpenSpec.upto caretsTypeSpec)

/-- 'galleylaw33.CaretsRub', WHERE WHAT IT READS IS OF BULK AT MOST 1048576: true; the input reads as it did. -/
def caretsRubUptoRow : OpenClaim := { program := "ytijbkiajhicooabdoor", sum := "b4d130331e62e219140624b9247bde83ca4b27ef4e813e84baf739c87ce35cca", func := "galley/galleylaw33.CaretsRub", spec := "caretsRub", unfollowed := true, recurses := true, named := ["galley/step.bad"], apart := false, laid := [("galley/step.bad", laid_galley_step_bad)], narrowed := true }
def CaretsRubUptoSaid : Prop := caretsRubUptoRow.holds Tryd.pinned (OpenSpec.upto caretsRubSpec)

end Rows
end Go.Proofs.YtijbkiajhicooabDoor

/-
  NARROWER THAN 'FOR EVERY INPUT', by the rows' own cells (each row's printed sentence says how): WordsKinds: laid · WordsAll: laid · WordsAround: laid · WordsGo: laid · WordsColumns: laid · CaretsNil: laid · WordsWraps: laid · WordsToAndFro: laid · WordsOwn: laid · WordsFit: laid.
  DERIVED. THE GIVEN ROWS OF THIS SEAT. 10 by the template 'for every input the law returns true; each argument reads behind the call as it read before'; 0 by the template 'total and deterministic' (their statements: YtijbkiajhicooaaDoorTotals.lean).
  GIVEN WITH THE SEED: the statements are not yours to turn. If you find one false, say at which input.
  Laid BY PROGRAM, IN A SANDBOX (cutbox-rows.mjs): the forced cells as the released guide's own fill.sh prints them over the translation e1f442b8bf2c6913… (all of the seat's roots in one cut). By AI agents, Wed Nov 11 2026. No macro, syntax, notation, axiom, sorry.
-/
import Derived.Test.YtijbkiajhicooaaDoorChecked
import GoSem.Claim
import GoSem.ClaimJoined
import GoSem.ClaimMapViews
import Derived.JoinedTies
import Derived.KernelRfl
namespace Go.Proofs.YtijbkiajhicooaaDoor
/- THE CELL 'sum', in the pinned program and in every row, IS THE sha256 OF THE DUMP (.gsa) THAT YtijbkiajhicooaaDoorProg.lean LOADS. Nothing in Lean hashes anything: it is a label: what it is worth is what the hold of that sum in a sandbox is worth. -/
noncomputable def Tryd.pinned : Pinned := { name := "ytijbkiajhicooaadoor", sum := "e1f442b8bf2c69136997ba2fc742def6edec34c6c432d3692a994ee751172e1f", checked := Tryd.checked }
namespace Rows
def none {H : Type} : Left H := { results := [], args := [] }

/- WHAT THE LISTED PACKAGE-LEVEL VARIABLES READ AS WHEN THE CALL BEGINS. Each datum BY PROGRAM (the guide's laid-datum.mjs) off the statement by which the dump's own 'gosem.cut.vars' lays the variable. In a bare row this is a premise. The card (YtijbkiajhicooaaDoorCards.lean) ties it to the program's text. -/
def laid_galley_step_bad {H : Type} : DataW H := .agg [.lit (.int .i32 65533), .lit (.int .i64 1), .lit (.bool false)]

/-- 'galleylaw22.WordsKinds': WHATEVER THE INPUT: true; the input reads as it did. -/
def wordsKindsSpec : ChangeSpec := { name := "wordsKinds", fn := fun _ => fun
  | [d] => { results := [.lit (.bool true)], args := [d] }
  | _ => none }
def wordsKindsRow : OpenClaim := { program := "ytijbkiajhicooaadoor", sum := "e1f442b8bf2c69136997ba2fc742def6edec34c6c432d3692a994ee751172e1f", func := "galley/galleylaw22.WordsKinds", spec := "wordsKinds", unfollowed := true, recurses := true, named := ["galley/step.bad"], apart := false, laid := [("galley/step.bad", laid_galley_step_bad)] }
def WordsKindsSaid : Prop := wordsKindsRow.holds Tryd.pinned (OpenSpec.ofChange wordsKindsSpec)

/-- ITS FALSE NEIGHBOUR: 'it returns false'. Refute it at one input. -/
def wordsKindsWrong : ChangeSpec := { name := "wordsKinds", fn := fun _ => fun
  | [d] => { results := [.lit (.bool false)], args := [d] }
  | _ => none }
def WordsKindsWrongFalsely : Prop := wordsKindsRow.holds Tryd.pinned (OpenSpec.ofChange wordsKindsWrong)

/-- 'galleylaw22.WordsAll': WHATEVER THE INPUT: true; the input reads as it did. -/
def wordsAllSpec : ChangeSpec := { name := "wordsAll", fn := fun _ => fun
  | [d] => { results := [.lit (.bool true)], args := [d] }
  | _ => none }
def wordsAllRow : OpenClaim := { program := "ytijbkiajhicooaadoor", sum := "e1f442b8bf2c69136997ba2fc742def6edec34c6c432d3692a994ee751172e1f", func := "galley/galleylaw22.WordsAll", spec := "wordsAll", unfollowed := true, recurses := true, named := ["galley/step.bad"], apart := false, laid := [("galley/step.bad", laid_galley_step_bad)] }
def WordsAllSaid : Prop := wordsAllRow.holds Tryd.pinned (OpenSpec.ofChange wordsAllSpec)

/-- ITS FALSE NEIGHBOUR: 'it returns false'. Refute it at one input. -/
def wordsAllWrong : ChangeSpec := { name := "wordsAll", fn := fun _ => fun
  | [d] => { results := [.lit (.bool false)], args := [d] }
  | _ => none }
def WordsAllWrongFalsely : Prop := wordsAllRow.holds Tryd.pinned (OpenSpec.ofChange wordsAllWrong)

/-- 'galleylaw22.WordsAround': WHATEVER THE INPUT: true; the input reads as it did. -/
def wordsAroundSpec : ChangeSpec := { name := "wordsAround", fn := fun _ => fun
  | [d1, d2] => { results := [.lit (.bool true)], args := [d1, d2] }
  | _ => none }
def wordsAroundRow : OpenClaim := { program := "ytijbkiajhicooaadoor", sum := "e1f442b8bf2c69136997ba2fc742def6edec34c6c432d3692a994ee751172e1f", func := "galley/galleylaw22.WordsAround", spec := "wordsAround", unfollowed := true, recurses := true, named := ["galley/step.bad"], apart := false, laid := [("galley/step.bad", laid_galley_step_bad)] }
def WordsAroundSaid : Prop := wordsAroundRow.holds Tryd.pinned (OpenSpec.ofChange wordsAroundSpec)

/-- ITS FALSE NEIGHBOUR: 'it returns false'. Refute it at one input. -/
def wordsAroundWrong : ChangeSpec := { name := "wordsAround", fn := fun _ => fun
  | [d1, d2] => { results := [.lit (.bool false)], args := [d1, d2] }
  | _ => none }
def WordsAroundWrongFalsely : Prop := wordsAroundRow.holds Tryd.pinned (OpenSpec.ofChange wordsAroundWrong)

/-- 'galleylaw22.WordsGo': WHATEVER THE INPUT: true; the input reads as it did. -/
def wordsGoSpec : ChangeSpec := { name := "wordsGo", fn := fun _ => fun
  | [d1, d2] => { results := [.lit (.bool true)], args := [d1, d2] }
  | _ => none }
def wordsGoRow : OpenClaim := { program := "ytijbkiajhicooaadoor", sum := "e1f442b8bf2c69136997ba2fc742def6edec34c6c432d3692a994ee751172e1f", func := "galley/galleylaw22.WordsGo", spec := "wordsGo", unfollowed := true, recurses := true, named := ["galley/step.bad"], apart := false, laid := [("galley/step.bad", laid_galley_step_bad)] }
def WordsGoSaid : Prop := wordsGoRow.holds Tryd.pinned (OpenSpec.ofChange wordsGoSpec)

/-- ITS FALSE NEIGHBOUR: 'it returns false'. Refute it at one input. -/
def wordsGoWrong : ChangeSpec := { name := "wordsGo", fn := fun _ => fun
  | [d1, d2] => { results := [.lit (.bool false)], args := [d1, d2] }
  | _ => none }
def WordsGoWrongFalsely : Prop := wordsGoRow.holds Tryd.pinned (OpenSpec.ofChange wordsGoWrong)

/-- 'galleylaw22.WordsColumns': WHATEVER THE INPUT: true; the input reads as it did. -/
def wordsColumnsSpec : ChangeSpec := { name := "wordsColumns", fn := fun _ => fun
  | [d1, d2, d3] => { results := [.lit (.bool true)], args := [d1, d2, d3] }
  | _ => none }
def wordsColumnsRow : OpenClaim := { program := "ytijbkiajhicooaadoor", sum := "e1f442b8bf2c69136997ba2fc742def6edec34c6c432d3692a994ee751172e1f", func := "galley/galleylaw22.WordsColumns", spec := "wordsColumns", unfollowed := true, recurses := true, named := ["galley/step.bad"], apart := false, laid := [("galley/step.bad", laid_galley_step_bad)] }
def WordsColumnsSaid : Prop := wordsColumnsRow.holds Tryd.pinned (OpenSpec.ofChange wordsColumnsSpec)

/-- ITS FALSE NEIGHBOUR: 'it returns false'. Refute it at one input. -/
def wordsColumnsWrong : ChangeSpec := { name := "wordsColumns", fn := fun _ => fun
  | [d1, d2, d3] => { results := [.lit (.bool false)], args := [d1, d2, d3] }
  | _ => none }
def WordsColumnsWrongFalsely : Prop := wordsColumnsRow.holds Tryd.pinned (OpenSpec.ofChange wordsColumnsWrong)

/-- 'galleylaw33.CaretsNil': WHATEVER THE INPUT: true; the input reads as it did. -/
def caretsNilSpec : ChangeSpec := { name := "caretsNil", fn := fun _ => fun
  | [d] => { results := [.lit (.bool true)], args := [d] }
  | _ => none }
def caretsNilRow : OpenClaim := { program := "ytijbkiajhicooaadoor", sum := "e1f442b8bf2c69136997ba2fc742def6edec34c6c432d3692a994ee751172e1f", func := "galley/galleylaw33.CaretsNil", spec := "caretsNil", unfollowed := true, recurses := true, named := ["galley/step.bad"], apart := false, laid := [("galley/step.bad", laid_galley_step_bad)] }
def CaretsNilSaid : Prop := caretsNilRow.holds Tryd.pinned (OpenSpec.ofChange caretsNilSpec)

/-- ITS FALSE NEIGHBOUR: 'it returns false'. Refute it at one input. -/
def caretsNilWrong : ChangeSpec := { name := "caretsNil", fn := fun _ => fun
  | [d] => { results := [.lit (.bool false)], args := [d] }
  | _ => none }
def CaretsNilWrongFalsely : Prop := caretsNilRow.holds Tryd.pinned (OpenSpec.ofChange caretsNilWrong)

/-- 'galleylaw22.WordsWraps': WHATEVER THE INPUT: true; the input reads as it did. -/
def wordsWrapsSpec : ChangeSpec := { name := "wordsWraps", fn := fun _ => fun
  | [d1, d2] => { results := [.lit (.bool true)], args := [d1, d2] }
  | _ => none }
def wordsWrapsRow : OpenClaim := { program := "ytijbkiajhicooaadoor", sum := "e1f442b8bf2c69136997ba2fc742def6edec34c6c432d3692a994ee751172e1f", func := "galley/galleylaw22.WordsWraps", spec := "wordsWraps", unfollowed := true, recurses := true, named := ["galley/step.bad"], apart := false, laid := [("galley/step.bad", laid_galley_step_bad)] }
def WordsWrapsSaid : Prop := wordsWrapsRow.holds Tryd.pinned (OpenSpec.ofChange wordsWrapsSpec)

/-- ITS FALSE NEIGHBOUR: 'it returns false'. Refute it at one input. -/
def wordsWrapsWrong : ChangeSpec := { name := "wordsWraps", fn := fun _ => fun
  | [d1, d2] => { results := [.lit (.bool false)], args := [d1, d2] }
  | _ => none }
def WordsWrapsWrongFalsely : Prop := wordsWrapsRow.holds Tryd.pinned (OpenSpec.ofChange wordsWrapsWrong)

/-- 'galleylaw22.WordsToAndFro': WHATEVER THE INPUT: true; the input reads as it did. -/
def wordsToAndFroSpec : ChangeSpec := { name := "wordsToAndFro", fn := fun _ => fun
  | [d] => { results := [.lit (.bool true)], args := [d] }
  | _ => none }
def wordsToAndFroRow : OpenClaim := { program := "ytijbkiajhicooaadoor", sum := "e1f442b8bf2c69136997ba2fc742def6edec34c6c432d3692a994ee751172e1f", func := "galley/galleylaw22.WordsToAndFro", spec := "wordsToAndFro", unfollowed := true, recurses := true, named := ["galley/step.bad"], apart := false, laid := [("galley/step.bad", laid_galley_step_bad)] }
def WordsToAndFroSaid : Prop := wordsToAndFroRow.holds Tryd.pinned (OpenSpec.ofChange wordsToAndFroSpec)

/-- ITS FALSE NEIGHBOUR: 'it returns false'. Refute it at one input. -/
def wordsToAndFroWrong : ChangeSpec := { name := "wordsToAndFro", fn := fun _ => fun
  | [d] => { results := [.lit (.bool false)], args := [d] }
  | _ => none }
def WordsToAndFroWrongFalsely : Prop := wordsToAndFroRow.holds Tryd.pinned (OpenSpec.ofChange wordsToAndFroWrong)

/-- 'galleylaw22.WordsOwn': WHATEVER THE INPUT: true; the input reads as it did. -/
def wordsOwnSpec : ChangeSpec := { name := "wordsOwn", fn := fun _ => fun
  | [d1, d2, d3] => { results := [.lit (.bool true)], args := [d1, d2, d3] }
  | _ => none }
def wordsOwnRow : OpenClaim := { program := "ytijbkiajhicooaadoor", sum := "e1f442b8bf2c69136997ba2fc742def6edec34c6c432d3692a994ee751172e1f", func := "galley/galleylaw22.WordsOwn", spec := "wordsOwn", unfollowed := true, recurses := true, named := ["galley/step.bad"], apart := false, laid := [("galley/step.bad", laid_galley_step_bad)] }
def WordsOwnSaid : Prop := wordsOwnRow.holds Tryd.pinned (OpenSpec.ofChange wordsOwnSpec)

/-- ITS FALSE NEIGHBOUR: 'it returns false'. Refute it at one input. -/
def wordsOwnWrong : ChangeSpec := { name := "wordsOwn", fn := fun _ => fun
  | [d1, d2, d3] => { results := [.lit (.bool false)], args := [d1, d2, d3] }
  | _ => none }
def WordsOwnWrongFalsely : Prop := wordsOwnRow.holds Tryd.pinned (OpenSpec.ofChange wordsOwnWrong)

/-- 'galleylaw22.WordsFit': WHATEVER THE INPUT: true; the input reads as it did. -/
def wordsFitSpec : ChangeSpec := { name := "wordsFit", fn := fun _ => fun
  | [d1, d2] => { results := [.lit (.bool true)], args := [d1, d2] }
  | _ => none }
def wordsFitRow : OpenClaim := { program := "ytijbkiajhicooaadoor", sum := "e1f442b8bf2c69136997ba2fc742def6edec34c6c432d3692a994ee751172e1f", func := "galley/galleylaw22.WordsFit", spec := "wordsFit", unfollowed := true, recurses := true, named := ["galley/step.bad"], apart := false, laid := [("galley/step.bad", laid_galley_step_bad)] }
def WordsFitSaid : Prop := wordsFitRow.holds Tryd.pinned (OpenSpec.ofChange wordsFitSpec)

/-- ITS FALSE NEIGHBOUR: 'it returns false'. Refute it at one input. -/
def wordsFitWrong : ChangeSpec := { name := "wordsFit", fn := fun _ => fun
  | [d1, d2] => { results := [.lit (.bool false)], args := [d1, d2] }
  | _ => none }
def WordsFitWrongFalsely : Prop := wordsFitRow.holds Tryd.pinned (OpenSpec.ofChange wordsFitWrong)

/- THE SECOND FORM. 'bulk': how many values and letters a reading holds, each counted each time it is reached (what is shared counts as often as it is met; a slice's spare places count too). A statement '..UptoSaid' is the law's where the arguments, and the package variables that the reading takes, are together of bulk at most 1048576: NARROWER than '..Said'. Prove '..Said' where nothing that the law and all that it calls make is longer than what came in: it says more and counts as full. Else prove '..UptoSaid'. A law counts once. -/
mutual
def uptoBulk {H : Type} : DataW H → Nat
  | .lit (.string bytes) => bytes.length + 1
  | .lit _ => 1
  | .nil => 1
  | .ptr d => uptoBulk d + 1
  | .slice elems spare => uptoBulkAll elems + uptoBulkAll spare + 1
  | .agg parts => uptoBulkAll parts + 1
  | .iface _ d => uptoBulk d + 1
  | .map entries => uptoBulkEntries entries + 1
  | .held _ => 1
def uptoBulkAll {H : Type} : List (DataW H) → Nat
  | [] => 0
  | d :: r => uptoBulk d + uptoBulkAll r
def uptoBulkEntries {H : Type} : List (Lit × DataW H) → Nat
  | [] => 0
  | x :: r => uptoBulkEntry x + uptoBulkEntries r
def uptoBulkEntry {H : Type} : Lit × DataW H → Nat
  | (.string bytes, d) => bytes.length + uptoBulk d + 1
  | (_, d) => uptoBulk d + 1
 end
def uptoSmall : (H : Type) → List (DataW H) → Bool := fun _ ds => decide (uptoBulkAll ds ≤ 1048576)
def OpenSpec.upto (s : _root_.Go.ChangeSpec) : _root_.Go.OpenSpec := { _root_.Go.OpenSpec.ofChange s with cond := some uptoSmall }

/-- 'galleylaw22.WordsKinds', WHERE WHAT IT READS IS OF BULK AT MOST 1048576: true; the input reads as it did. -/
def wordsKindsUptoRow : OpenClaim := { program := "ytijbkiajhicooaadoor", sum := "e1f442b8bf2c69136997ba2fc742def6edec34c6c432d3692a994ee751172e1f", func := "galley/galleylaw22.WordsKinds", spec := "wordsKinds", unfollowed := true, recurses := true, named := ["galley/step.bad"], apart := false, laid := [("galley/step.bad", laid_galley_step_bad)], narrowed := true }
def WordsKindsUptoSaid : Prop := wordsKindsUptoRow.holds Tryd.pinned (OpenSpec.upto wordsKindsSpec)

/-- 'galleylaw22.WordsAll', WHERE WHAT IT READS IS OF BULK AT MOST 1048576: true; the input reads as it did. -/
def wordsAllUptoRow : OpenClaim := { program := "ytijbkiajhicooaadoor", sum := "e1f442b8bf2c69136997ba2fc742def6edec34c6c432d3692a994ee751172e1f", func := "galley/galleylaw22.WordsAll", spec := "wordsAll", unfollowed := true, recurses := true, named := ["galley/step.bad"], apart := false, laid := [("galley/step.bad", laid_galley_step_bad)], narrowed := true }
def WordsAllUptoSaid : Prop := wordsAllUptoRow.holds Tryd.pinned (OpenSpec.upto wordsAllSpec)

/-- 'galleylaw22.WordsAround', WHERE WHAT IT READS IS OF BULK AT MOST 1048576: true; the input reads as it did. -/
def wordsAroundUptoRow : OpenClaim := { program := "ytijbkiajhicooaadoor", sum := "e1f442b8bf2c69136997ba2fc742def6edec34c6c432d3692a994ee751172e1f", func := "galley/galleylaw22.WordsAround", spec := "wordsAround", unfollowed := true, recurses := true, named := ["galley/step.bad"], apart := false, laid := [("galley/step.bad", laid_galley_step_bad)], narrowed := true }
def WordsAroundUptoSaid : Prop := wordsAroundUptoRow.holds Tryd.pinned (OpenSpec.upto wordsAroundSpec)

/-- 'galleylaw22.WordsGo', WHERE WHAT IT READS IS OF BULK AT MOST 1048576: true; the input reads as it did. -/
def wordsGoUptoRow : OpenClaim := { program := "ytijbkiajhicooaadoor", sum := "e1f442b8bf2c69136997ba2fc742def6edec34c6c432d3692a994ee751172e1f", func := "galley/galleylaw22.WordsGo", spec := "wordsGo", unfollowed := true, recurses := true, named := ["galley/step.bad"], apart := false, laid := [("galley/step.bad", laid_galley_step_bad)], narrowed := true }
def WordsGoUptoSaid : Prop := wordsGoUptoRow.holds Tryd.pinned (OpenSpec.upto wordsGoSpec)

/-- 'galleylaw22.WordsColumns', WHERE WHAT IT READS IS OF BULK AT MOST 1048576: true; the input reads as it did. -/
def wordsColumnsUptoRow : OpenClaim := { program := "ytijbkiajhicooaadoor", sum := "e1f442b8bf2c69136997ba2fc742def6edec34c6c432d3692a994ee751172e1f", func := "galley/galleylaw22.WordsColumns", spec := "wordsColumns", unfollowed := true, recurses := true, named := ["galley/step.bad"], apart := false, laid := [("galley/step.bad", laid_galley_step_bad)], narrowed := true }
def WordsColumnsUptoSaid : Prop := wordsColumnsUptoRow.holds Tryd.pinned (OpenSpec.upto wordsColumnsSpec)

/-- 'galleylaw33.CaretsNil', WHERE WHAT IT READS IS OF BULK AT MOST 1048576: true; the input reads as it did. -/
def caretsNilUptoRow : OpenClaim := { program := "ytijbkiajhicooaadoor", sum := "e1f442b8bf2c69136997ba2fc742def6edec34c6c432d3692a994ee751172e1f", func := "galley/galleylaw33.CaretsNil", spec := "caretsNil", unfollowed := true, recurses := true, named := ["galley/step.bad"], apart := false, laid := [("galley/step.bad", laid_galley_step_bad)], narrowed := true }
def CaretsNilUptoSaid : Prop := caretsNilUptoRow.holds Tryd.pinned (OpenSpec.upto caretsNilSpec)

/-- 'galleylaw22.WordsWraps', WHERE WHAT IT READS IS OF BULK AT MOST 1048576: true; the input reads as it did. -/
def wordsWrapsUptoRow : OpenClaim := { program := "ytijbkiajhicooaadoor", sum := "e1f442b8bf2c69136997ba2fc742def6edec34c6c432d3692a994ee751172e1f", func := "galley/galleylaw22.WordsWraps", spec := "wordsWraps", unfollowed := true, recurses := true, named := ["galley/step.bad"], apart := false, laid := [("galley/step.bad", laid_galley_step_bad)], narrowed := true }
def WordsWrapsUptoSaid : Prop := wordsWrapsUptoRow.holds Tryd.pinned (OpenSpec.upto wordsWrapsSpec)

/-- 'galleylaw22.WordsToAndFro', WHERE WHAT IT READS IS OF BULK AT MOST 1048576: true; the input reads as it did. -/
def wordsToAndFroUptoRow : OpenClaim := { program := "ytijbkiajhicooaadoor", sum := "e1f442b8bf2c69136997ba2fc742def6edec34c6c432d3692a994ee751172e1f", func := "galley/galleylaw22.WordsToAndFro", spec := "wordsToAndFro", unfollowed := true, recurses := true, named := ["galley/step.bad"], apart := false, laid := [("galley/step.bad", laid_galley_step_bad)], narrowed := true }
def WordsToAndFroUptoSaid : Prop := wordsToAndFroUptoRow.holds Tryd.pinned (OpenSpec.upto wordsToAndFroSpec)

/-- 'galleylaw22.WordsOwn', WHERE WHAT IT READS IS OF BULK AT MOST 1048576: true; the input reads as it did. -/
def wordsOwnUptoRow : OpenClaim := { program := "ytijbkiajhicooaadoor", sum := "e1f442b8bf2c69136997ba2fc742def6edec34c6c432d3692a994ee751172e1f", func := "galley/galleylaw22.WordsOwn", spec := "wordsOwn", unfollowed := true, recurses := true, named := ["galley/step.bad"], apart := false, laid := [("galley/step.bad", laid_galley_step_bad)], narrowed := true }
def WordsOwnUptoSaid : Prop := wordsOwnUptoRow.holds Tryd.pinned (OpenSpec.upto wordsOwnSpec)

/-- 'galleylaw22.WordsFit', WHERE WHAT IT READS IS OF BULK AT MOST 1048576: true; the input reads as it did. -/
def wordsFitUptoRow : OpenClaim := { program := "ytijbkiajhicooaadoor", sum := "e1f442b8bf2c69136997ba2fc742def6edec34c6c432d3692a994ee751172e1f", func := "galley/galleylaw22.WordsFit", spec := "wordsFit", unfollowed := true, recurses := true, named := ["galley/step.bad"], apart := false, laid := [("galley/step.bad", laid_galley_step_bad)], narrowed := true }
def WordsFitUptoSaid : Prop := wordsFitUptoRow.holds Tryd.pinned (OpenSpec.upto wordsFitSpec)

end Rows
end Go.Proofs.YtijbkiajhicooaaDoor

/-
  DERIVED. GIVEN WITH THE SEED: THE CARDS: each row of YtijbkiajhicooaaDoorRows.lean that lists a variable, with what it lists TIED to the program's text (the seventh form; the later family's looks); each row that meets fmt, with fmt's text TOLD by the authors' own Lean function (tested against real Go, not proved from fmt's source: count such statements apart). THE CARD IS WHAT COUNTS. Prove the row's statement (the work); the ties are given (YtijbkiajhicooaaDoorTie.lean); close each card by the builder's one call (the guide's Derived/Test/ToyasCard.lean, 'card_holds'). Laid BY PROGRAM, IN A SANDBOX (cutbox-door.mjs). By AI agents, Wed Nov 11 2026. No macro, syntax, notation, axiom, sorry.
-/
import Derived.Test.YtijbkiajhicooaaDoorRows
import GoSem.ClaimSeven
namespace Go.Proofs.YtijbkiajhicooaaDoor
namespace Rows

/-- THE TIED CARD OF 'galleylaw22.WordsKinds'. -/
def wordsKindsCard : Claim7 := { stood := { row := wordsKindsRow, standIns := [], harness := (true, "caa033f9709a8be9e242d777ad88c1dcb67167f517478289a7d835c4a30e4098"), looks := false }, kinds := [], alts := [], laidByText := true, laidKinds := [.data], laidTests := true, laidLooks := .later }
def WordsKindsCardSaid : Prop := Claim7.holds Tryd.pinned (.plain (OpenSpec.ofChange wordsKindsSpec)) wordsKindsCard

/-- THE TIED CARD OF 'galleylaw22.WordsAll'. -/
def wordsAllCard : Claim7 := { stood := { row := wordsAllRow, standIns := [], harness := (true, "caa033f9709a8be9e242d777ad88c1dcb67167f517478289a7d835c4a30e4098"), looks := false }, kinds := [], alts := [], laidByText := true, laidKinds := [.data], laidTests := true, laidLooks := .later }
def WordsAllCardSaid : Prop := Claim7.holds Tryd.pinned (.plain (OpenSpec.ofChange wordsAllSpec)) wordsAllCard

/-- THE TIED CARD OF 'galleylaw22.WordsAround'. -/
def wordsAroundCard : Claim7 := { stood := { row := wordsAroundRow, standIns := [], harness := (true, "caa033f9709a8be9e242d777ad88c1dcb67167f517478289a7d835c4a30e4098"), looks := false }, kinds := [], alts := [], laidByText := true, laidKinds := [.data], laidTests := true, laidLooks := .later }
def WordsAroundCardSaid : Prop := Claim7.holds Tryd.pinned (.plain (OpenSpec.ofChange wordsAroundSpec)) wordsAroundCard

/-- THE TIED CARD OF 'galleylaw22.WordsGo'. -/
def wordsGoCard : Claim7 := { stood := { row := wordsGoRow, standIns := [], harness := (true, "caa033f9709a8be9e242d777ad88c1dcb67167f517478289a7d835c4a30e4098"), looks := false }, kinds := [], alts := [], laidByText := true, laidKinds := [.data], laidTests := true, laidLooks := .later }
def WordsGoCardSaid : Prop := Claim7.holds Tryd.pinned (.plain (OpenSpec.ofChange wordsGoSpec)) wordsGoCard

/-- THE TIED CARD OF 'galleylaw22.WordsColumns'. -/
def wordsColumnsCard : Claim7 := { stood := { row := wordsColumnsRow, standIns := [], harness := (true, "caa033f9709a8be9e242d777ad88c1dcb67167f517478289a7d835c4a30e4098"), looks := false }, kinds := [], alts := [], laidByText := true, laidKinds := [.data], laidTests := true, laidLooks := .later }
def WordsColumnsCardSaid : Prop := Claim7.holds Tryd.pinned (.plain (OpenSpec.ofChange wordsColumnsSpec)) wordsColumnsCard

/-- THE TIED CARD OF 'galleylaw33.CaretsNil'. -/
def caretsNilCard : Claim7 := { stood := { row := caretsNilRow, standIns := [], harness := (true, "caa033f9709a8be9e242d777ad88c1dcb67167f517478289a7d835c4a30e4098"), looks := false }, kinds := [], alts := [], laidByText := true, laidKinds := [.data], laidTests := true, laidLooks := .later }
def CaretsNilCardSaid : Prop := Claim7.holds Tryd.pinned (.plain (OpenSpec.ofChange caretsNilSpec)) caretsNilCard

/-- THE TIED CARD OF 'galleylaw22.WordsWraps'. -/
def wordsWrapsCard : Claim7 := { stood := { row := wordsWrapsRow, standIns := [], harness := (true, "caa033f9709a8be9e242d777ad88c1dcb67167f517478289a7d835c4a30e4098"), looks := false }, kinds := [], alts := [], laidByText := true, laidKinds := [.data], laidTests := true, laidLooks := .later }
def WordsWrapsCardSaid : Prop := Claim7.holds Tryd.pinned (.plain (OpenSpec.ofChange wordsWrapsSpec)) wordsWrapsCard

/-- THE TIED CARD OF 'galleylaw22.WordsToAndFro'. -/
def wordsToAndFroCard : Claim7 := { stood := { row := wordsToAndFroRow, standIns := [], harness := (true, "caa033f9709a8be9e242d777ad88c1dcb67167f517478289a7d835c4a30e4098"), looks := false }, kinds := [], alts := [], laidByText := true, laidKinds := [.data], laidTests := true, laidLooks := .later }
def WordsToAndFroCardSaid : Prop := Claim7.holds Tryd.pinned (.plain (OpenSpec.ofChange wordsToAndFroSpec)) wordsToAndFroCard

/-- THE TIED CARD OF 'galleylaw22.WordsOwn'. -/
def wordsOwnCard : Claim7 := { stood := { row := wordsOwnRow, standIns := [], harness := (true, "caa033f9709a8be9e242d777ad88c1dcb67167f517478289a7d835c4a30e4098"), looks := false }, kinds := [], alts := [], laidByText := true, laidKinds := [.data], laidTests := true, laidLooks := .later }
def WordsOwnCardSaid : Prop := Claim7.holds Tryd.pinned (.plain (OpenSpec.ofChange wordsOwnSpec)) wordsOwnCard

/-- THE TIED CARD OF 'galleylaw22.WordsFit'. -/
def wordsFitCard : Claim7 := { stood := { row := wordsFitRow, standIns := [], harness := (true, "caa033f9709a8be9e242d777ad88c1dcb67167f517478289a7d835c4a30e4098"), looks := false }, kinds := [], alts := [], laidByText := true, laidKinds := [.data], laidTests := true, laidLooks := .later }
def WordsFitCardSaid : Prop := Claim7.holds Tryd.pinned (.plain (OpenSpec.ofChange wordsFitSpec)) wordsFitCard

/-- THE SECOND FORM's CARD OF 'galleylaw22.WordsKinds'. -/
def wordsKindsUptoCard : Claim7 := { stood := { row := wordsKindsUptoRow, standIns := [], harness := (true, "caa033f9709a8be9e242d777ad88c1dcb67167f517478289a7d835c4a30e4098"), looks := false }, kinds := [], alts := [], laidByText := true, laidKinds := [.data], laidTests := true, laidLooks := .later }
def WordsKindsUptoCardSaid : Prop := Claim7.holds Tryd.pinned (.plain (OpenSpec.upto wordsKindsSpec)) wordsKindsUptoCard

/-- THE SECOND FORM's CARD OF 'galleylaw22.WordsAll'. -/
def wordsAllUptoCard : Claim7 := { stood := { row := wordsAllUptoRow, standIns := [], harness := (true, "caa033f9709a8be9e242d777ad88c1dcb67167f517478289a7d835c4a30e4098"), looks := false }, kinds := [], alts := [], laidByText := true, laidKinds := [.data], laidTests := true, laidLooks := .later }
def WordsAllUptoCardSaid : Prop := Claim7.holds Tryd.pinned (.plain (OpenSpec.upto wordsAllSpec)) wordsAllUptoCard

/-- THE SECOND FORM's CARD OF 'galleylaw22.WordsAround'. -/
def wordsAroundUptoCard : Claim7 := { stood := { row := wordsAroundUptoRow, standIns := [], harness := (true, "caa033f9709a8be9e242d777ad88c1dcb67167f517478289a7d835c4a30e4098"), looks := false }, kinds := [], alts := [], laidByText := true, laidKinds := [.data], laidTests := true, laidLooks := .later }
def WordsAroundUptoCardSaid : Prop := Claim7.holds Tryd.pinned (.plain (OpenSpec.upto wordsAroundSpec)) wordsAroundUptoCard

/-- THE SECOND FORM's CARD OF 'galleylaw22.WordsGo'. -/
def wordsGoUptoCard : Claim7 := { stood := { row := wordsGoUptoRow, standIns := [], harness := (true, "caa033f9709a8be9e242d777ad88c1dcb67167f517478289a7d835c4a30e4098"), looks := false }, kinds := [], alts := [], laidByText := true, laidKinds := [.data], laidTests := true, laidLooks := .later }
def WordsGoUptoCardSaid : Prop := Claim7.holds Tryd.pinned (.plain (OpenSpec.upto wordsGoSpec)) wordsGoUptoCard

/-- THE SECOND FORM's CARD OF 'galleylaw22.WordsColumns'. -/
def wordsColumnsUptoCard : Claim7 := { stood := { row := wordsColumnsUptoRow, standIns := [], harness := (true, "caa033f9709a8be9e242d777ad88c1dcb67167f517478289a7d835c4a30e4098"), looks := false }, kinds := [], alts := [], laidByText := true, laidKinds := [.data], laidTests := true, laidLooks := .later }
def WordsColumnsUptoCardSaid : Prop := Claim7.holds Tryd.pinned (.plain (OpenSpec.upto wordsColumnsSpec)) wordsColumnsUptoCard

/-- THE SECOND FORM's CARD OF 'galleylaw33.CaretsNil'. -/
def caretsNilUptoCard : Claim7 := { stood := { row := caretsNilUptoRow, standIns := [], harness := (true, "caa033f9709a8be9e242d777ad88c1dcb67167f517478289a7d835c4a30e4098"), looks := false }, kinds := [], alts := [], laidByText := true, laidKinds := [.data], laidTests := true, laidLooks := .later }
def CaretsNilUptoCardSaid : Prop := Claim7.holds Tryd.pinned (.plain (OpenSpec.upto caretsNilSpec)) caretsNilUptoCard

/-- THE SECOND FORM's CARD OF 'galleylaw22.WordsWraps'. -/
def wordsWrapsUptoCard : Claim7 := { stood := { row := wordsWrapsUptoRow, standIns := [], harness := (true, "caa033f9709a8be9e242d777ad88c1dcb67167f517478289a7d835c4a30e4098"), looks := false }, kinds := [], alts := [], laidByText := true, laidKinds := [.data], laidTests := true, laidLooks := .later }
def WordsWrapsUptoCardSaid : Prop := Claim7.holds Tryd.pinned (.plain (OpenSpec.upto wordsWrapsSpec)) wordsWrapsUptoCard

/-- THE SECOND FORM's CARD OF 'galleylaw22.WordsToAndFro'. -/
def wordsToAndFroUptoCard : Claim7 := { stood := { row := wordsToAndFroUptoRow, standIns := [], harness := (true, "caa033f9709a8be9e242d777ad88c1dcb67167f517478289a7d835c4a30e4098"), looks := false }, kinds := [], alts := [], laidByText := true, laidKinds := [.data], laidTests := true, laidLooks := .later }
def WordsToAndFroUptoCardSaid : Prop := Claim7.holds Tryd.pinned (.plain (OpenSpec.upto wordsToAndFroSpec)) wordsToAndFroUptoCard

/-- THE SECOND FORM's CARD OF 'galleylaw22.WordsOwn'. -/
def wordsOwnUptoCard : Claim7 := { stood := { row := wordsOwnUptoRow, standIns := [], harness := (true, "caa033f9709a8be9e242d777ad88c1dcb67167f517478289a7d835c4a30e4098"), looks := false }, kinds := [], alts := [], laidByText := true, laidKinds := [.data], laidTests := true, laidLooks := .later }
def WordsOwnUptoCardSaid : Prop := Claim7.holds Tryd.pinned (.plain (OpenSpec.upto wordsOwnSpec)) wordsOwnUptoCard

/-- THE SECOND FORM's CARD OF 'galleylaw22.WordsFit'. -/
def wordsFitUptoCard : Claim7 := { stood := { row := wordsFitUptoRow, standIns := [], harness := (true, "caa033f9709a8be9e242d777ad88c1dcb67167f517478289a7d835c4a30e4098"), looks := false }, kinds := [], alts := [], laidByText := true, laidKinds := [.data], laidTests := true, laidLooks := .later }
def WordsFitUptoCardSaid : Prop := Claim7.holds Tryd.pinned (.plain (OpenSpec.upto wordsFitSpec)) wordsFitUptoCard
end Rows
end Go.Proofs.YtijbkiajhicooaaDoor

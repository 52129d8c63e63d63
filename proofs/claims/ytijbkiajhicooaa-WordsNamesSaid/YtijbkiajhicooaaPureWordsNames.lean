/- The numbers of the kinds are one to five, as the document has them: WordsNames returns true. No conditions. -/
import Derived.Test.YtijbkiajhicooaaPWordsNamesx1
namespace Go.Proofs.Ytijbkiajhicooaa.Pure
open Go.RowKit Go.Proofs.Ytijbkiajhicooaa.PWordsNames Go.Proofs.YtijbkiajhicooaaW.PrintWords Go.Proofs.YtijbkiajhicooaaW.PrintLast

theorem WordsNames : galleylaw22_WordsNames.Pure := rfl

end Go.Proofs.Ytijbkiajhicooaa.Pure

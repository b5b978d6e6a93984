/- The walks of the references' Texts and of slices.Equal over texts. -/
import Derived.Test.YtcfjciencggflaaDoorTxt
set_option linter.unusedVariables false
set_option linter.unusedSimpArgs false
namespace Go.Proofs.YtcfjciencggflaaDoor
open Go.RowKit PrintLast

end Go.Proofs.YtcfjciencggflaaDoor

/- Several texts of one depth, laid together. Conditions: none. -/
import Derived.Test.YtfjhlcbpogihmaaKNoteReads1
import Derived.Test.YtfjhlcbpogihmaaGNoteReadsHandFold
import Derived.Test.YtfjhlcbpogihmaaGNoteReadsPr6
section
namespace Go.Proofs.Ytfjhlcbpogihmaa.Pr
open Go.RowKit Go.Proofs.YtfjhlcbpogihmaaW.PrintWords Go.Proofs.YtfjhlcbpogihmaaW.PrintLast Go.Proofs.YtfjhlcbpogihmaaW.PrintMore
set_option linter.unusedVariables false
set_option linter.unusedSimpArgs false
theorem shown_true : ferrulelaw04_shown.f = some true := by decide +kernel
end Go.Proofs.Ytfjhlcbpogihmaa.Pr
end

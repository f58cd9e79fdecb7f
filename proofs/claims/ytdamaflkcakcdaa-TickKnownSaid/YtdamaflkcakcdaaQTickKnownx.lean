-- PRINTED by print.py (a twelfth state) out of the translation. Not trusted: Lean checks it.
import Derived.Test.YtdamaflkcakcdaaQTickKnownx0
import Derived.Test.YtdamaflkcakcdaaQTickKnownx1
import Derived.Test.YtdamaflkcakcdaaQTickKnownx2
namespace Go.Proofs.Ytdamaflkcakcdaa.QTickKnown
open Go.RowKit Go.Proofs.YtdamaflkcakcdaaW.PrintWords Go.Proofs.YtdamaflkcakcdaaW.PrintLast Go.Proofs.YtdamaflkcakcdaaW.PrintMore
attribute [local go_sem] max2_int min2_int max_two min_two max_three min_three max_four min_four   -- for this text's walks alone
set_option linter.unusedVariables false
set_option linter.unusedSimpArgs false

end Go.Proofs.Ytdamaflkcakcdaa.QTickKnown

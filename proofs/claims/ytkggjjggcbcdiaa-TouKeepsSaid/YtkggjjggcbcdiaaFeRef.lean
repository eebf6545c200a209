/- The document's Add and Nth. -/
import Derived.Test.YtkggjjggcbcdiaaFcRef
import Derived.Test.YtkggjjggcbcdiaaFbNth
import Derived.Test.YtkggjjggcbcdiaaFaR
import Derived.Test.YtkggjjggcbcdiaaFaW
namespace Go.Proofs.Ytkggjjggcbcdiaa.PX
open Go.RowKit Go.Proofs.YtkggjjggcbcdiaaW.PrintWords Go.Proofs.YtkggjjggcbcdiaaW.PrintLast Go.Proofs.YtkggjjggcbcdiaaW.PrintMore
set_option linter.unusedVariables false
set_option linter.unusedSimpArgs false

end Go.Proofs.Ytkggjjggcbcdiaa.PX

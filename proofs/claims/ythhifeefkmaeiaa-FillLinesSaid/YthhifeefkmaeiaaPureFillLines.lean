/- FillLines: for every input that the row lets in the printed function of this law answers true. -/
import Derived.Test.YthhifeefkmaeiaaFfA
namespace Go.Proofs.Ythhifeefkmaeiaa.Pure
theorem FillLines : Go.Proofs.Ythhifeefkmaeiaa.PX.pylonlaw11_FillLines.Pure := Go.Proofs.Ythhifeefkmaeiaa.PX.FillLines_pure
end Go.Proofs.Ythhifeefkmaeiaa.Pure

/- FillLaw: for every input that the row lets in the printed function of this law answers true. -/
import Derived.Test.YthhifeefkmaeiaaFfB
namespace Go.Proofs.Ythhifeefkmaeiaa.Pure
theorem FillLaw : Go.Proofs.Ythhifeefkmaeiaa.PX.pylonlaw11_FillLaw.Pure := Go.Proofs.Ythhifeefkmaeiaa.PX.FillLaw_pure
end Go.Proofs.Ythhifeefkmaeiaa.Pure

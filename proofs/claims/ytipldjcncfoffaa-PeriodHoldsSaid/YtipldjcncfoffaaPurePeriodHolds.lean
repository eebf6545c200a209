/- PeriodHolds: for every input that the row lets in the printed function of this law answers true. -/
import Derived.Test.YtipldjcncfoffaaFpC
namespace Go.Proofs.Ytipldjcncfoffaa.Pure
theorem PeriodHolds : Go.Proofs.Ytipldjcncfoffaa.PX.pylonlaw13_PeriodHolds.Pure := Go.Proofs.Ytipldjcncfoffaa.PX.PeriodHolds_pure
end Go.Proofs.Ytipldjcncfoffaa.Pure

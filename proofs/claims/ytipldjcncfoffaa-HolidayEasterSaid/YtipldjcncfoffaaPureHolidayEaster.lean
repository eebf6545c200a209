/- HolidayEaster: for every input that the row lets in the printed function of this law answers true. -/
import Derived.Test.YtipldjcncfoffaaFbEaster
namespace Go.Proofs.Ytipldjcncfoffaa.Pure
theorem HolidayEaster : Go.Proofs.Ytipldjcncfoffaa.PX.pylonlaw05_HolidayEaster.Pure := Go.Proofs.Ytipldjcncfoffaa.PX.HolidayEaster_pure
end Go.Proofs.Ytipldjcncfoffaa.Pure

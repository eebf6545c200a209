/- CivilYears: for every input that the row lets in the printed function of this law answers true. -/
import Derived.Test.YtipldjcncfoffaaFbCivil
namespace Go.Proofs.Ytipldjcncfoffaa.Pure
theorem CivilYears : Go.Proofs.Ytipldjcncfoffaa.PX.pylonlaw03_CivilYears.Pure := Go.Proofs.Ytipldjcncfoffaa.PX.CivilYears_pure
end Go.Proofs.Ytipldjcncfoffaa.Pure

/- CivilNext: for every input that the row lets in the printed function of this law answers true. -/
import Derived.Test.YtipldjcncfoffaaFdCivil
namespace Go.Proofs.Ytipldjcncfoffaa.Pure
theorem CivilNext : Go.Proofs.Ytipldjcncfoffaa.PX.pylonlaw03_CivilNext.Pure := Go.Proofs.Ytipldjcncfoffaa.PX.CivilNext_pure
end Go.Proofs.Ytipldjcncfoffaa.Pure

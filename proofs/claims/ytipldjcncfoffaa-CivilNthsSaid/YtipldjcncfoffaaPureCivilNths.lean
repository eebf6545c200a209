/- CivilNths: for every input that the row lets in the printed function of this law answers true. -/
import Derived.Test.YtipldjcncfoffaaFbCivil
namespace Go.Proofs.Ytipldjcncfoffaa.Pure
theorem CivilNths : Go.Proofs.Ytipldjcncfoffaa.PX.pylonlaw03_CivilNths.Pure := Go.Proofs.Ytipldjcncfoffaa.PX.CivilNths_pure
end Go.Proofs.Ytipldjcncfoffaa.Pure

/- CivilBack: for every input that the row lets in the printed function of this law answers true. -/
import Derived.Test.YtipldjcncfoffaaFcCivil
namespace Go.Proofs.Ytipldjcncfoffaa.Pure
theorem CivilBack : Go.Proofs.Ytipldjcncfoffaa.PX.pylonlaw03_CivilBack.Pure := Go.Proofs.Ytipldjcncfoffaa.PX.CivilBack_pure
end Go.Proofs.Ytipldjcncfoffaa.Pure

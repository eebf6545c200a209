/- CivilReads: for every input that the row lets in the printed function of this law answers true. -/
import Derived.Test.YtipldjcncfoffaaFcCivil
namespace Go.Proofs.Ytipldjcncfoffaa.Pure
theorem CivilReads : Go.Proofs.Ytipldjcncfoffaa.PX.pylonlaw03_CivilReads.Pure := Go.Proofs.Ytipldjcncfoffaa.PX.CivilReads_pure
end Go.Proofs.Ytipldjcncfoffaa.Pure

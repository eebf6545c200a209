/- CivilAdds: for every input that the row lets in the printed function of this law answers true. -/
import Derived.Test.YtipldjcncfoffaaFcCivil
namespace Go.Proofs.Ytipldjcncfoffaa.Pure
theorem CivilAdds : Go.Proofs.Ytipldjcncfoffaa.PX.pylonlaw03_CivilAdds.Pure := Go.Proofs.Ytipldjcncfoffaa.PX.CivilAdds_pure
end Go.Proofs.Ytipldjcncfoffaa.Pure

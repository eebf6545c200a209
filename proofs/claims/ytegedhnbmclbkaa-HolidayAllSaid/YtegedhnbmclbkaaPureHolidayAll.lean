/- HolidayAll: the pure statement lies in the text that is imported here. -/
import Derived.Test.YtegedhnbmclbkaaFhS

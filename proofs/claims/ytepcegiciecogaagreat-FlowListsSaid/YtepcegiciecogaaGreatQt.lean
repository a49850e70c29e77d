/- Rounding of quotients: digits beyond those that are looked at count as one sticky bit. No program in sight. -/
import Derived.Test.YtepcegiciecogaaGreatMon
namespace Tn
open Go Go.RowKit

end Tn

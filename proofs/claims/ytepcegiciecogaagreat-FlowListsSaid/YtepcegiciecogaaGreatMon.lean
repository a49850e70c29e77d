/- Rounding does not fall. No program. -/
import Derived.Test.YtepcegiciecogaaGreatPl
namespace Tn
open Go Go.RowKit

/-! ### units, and what is near of them -/
end Tn

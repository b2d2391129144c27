/-
  ITEMS AS GROUPS. Conditions: none.
-/
import Derived.Test.YthgiaoidekdpfaaSXVec
import Derived.Test.YthgiaoidekdpfaaSXRo
import Derived.Test.YthgiaoidekdpfaaH2
set_option linter.all false
namespace Go.Proofs.Ythgiaoidekdpfaa
open Go.SX Go.RowKit
noncomputable def pI : List PC := [.int .i64, .int .i64, .int .i64, .int .i64, .int .i64, .int .i64, .int .i64, .int .i64, .int .i64, .int .i64, .int .i64, .int .i64, .int .i64, .bool, .int .i64, .bool, .int .i64, .int .i64, .int .i64, .int .i64, .int .i64, .bool]
/-- Which fields of an item are truth values. -/
noncomputable def itemB : List Bool := [false, false, false, false, false, false, false, false, false, false, false, false, false, true, false, true, false, false, false, false, false, true]
end Go.Proofs.Ythgiaoidekdpfaa

/- A part of the proof: WorldsVisits: for every input the law returns true and the argument reads behind the call as it read before. Conditions: none. -/
import Derived.Test.YtndbkcpofkdbiaaWv11
set_option linter.all false
namespace Av
open Go
theorem kn57 : callK T1 100 57 [spK, .slice false 1 2 [.int .i64 (-1), .int .i64 0]] [] = some (.tup [.agg [.bool false, uO 1, uO 6], .int .i64 0], []) := by kernel_rfl
end Av

/- A part of the proof: WorldsVisits: for every input the law returns true and the argument reads behind the call as it read before. Conditions: none. -/
import Derived.Test.YtndbkcpofkdbiaaWv11
set_option linter.all false
namespace Av
open Go
theorem kn36 : callK T1 100 36 [spK, u1 5] [] = some (.tup [.slice true 1 2 [.int .i64 (-1), .int .i64 (-1)], .bool true], []) := by kernel_rfl
theorem kn2 : callK T1 100 2 [spK] [] = some (uO 6, []) := by kernel_rfl
end Av

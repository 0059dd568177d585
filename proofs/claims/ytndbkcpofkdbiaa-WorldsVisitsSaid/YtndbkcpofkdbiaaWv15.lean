/- A part of the proof: WorldsVisits: for every input the law returns true and the argument reads behind the call as it read before. Conditions: none. -/
import Derived.Test.YtndbkcpofkdbiaaWv9
set_option linter.all false
namespace Av
open Go
set_option maxRecDepth 100000
theorem qn0 : callK T2 100 46 [.int .i64 1, .int .i64 2] [] = some (.tup [.agg (frO (false, [1], [2])), .int .i64 0], []) := by kernel_rfl
theorem qn1 : callK T2 100 46 [.int .i64 1, .int .i64 3] [] = some (.tup [.agg (frO (false, [1], [3])), .int .i64 0], []) := by kernel_rfl
theorem qn2 : callK T2 100 46 [.int .i64 2, .int .i64 3] [] = some (.tup [.agg (frO (false, [2], [3])), .int .i64 0], []) := by kernel_rfl
theorem qn3 : callK T2 100 46 [.int .i64 1, .int .i64 4] [] = some (.tup [.agg (frO (false, [1], [4])), .int .i64 0], []) := by kernel_rfl
end Av

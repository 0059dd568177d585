/- A part of the proof: WorldsVisits: for every input the law returns true and the argument reads behind the call as it read before. Conditions: none. -/
import Derived.Test.YtndbkcpofkdbiaaWv9
set_option linter.all false
namespace Av
open Go
set_option maxRecDepth 100000
theorem qn4 : callK T2 100 46 [.int .i64 1, .int .i64 1] [] = some (.tup [.agg (frO (false, [1], [1])), .int .i64 0], []) := by kernel_rfl
theorem qn5 : callK T2 100 46 [.int .i64 0, .int .i64 1] [] = some (.tup [.agg (frO (false, [], [1])), .int .i64 0], []) := by kernel_rfl
theorem qn6 : callK T2 100 46 [.int .i64 3, .int .i64 5] [] = some (.tup [.agg (frO (false, [3], [5])), .int .i64 0], []) := by kernel_rfl
theorem qn7 : callK T2 100 46 [.int .i64 1, .int .i64 7] [] = some (.tup [.agg (frO (false, [1], [7])), .int .i64 0], []) := by kernel_rfl
end Av

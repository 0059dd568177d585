/- A part of the proof: WorldsVisits: for every input the law returns true and the argument reads behind the call as it read before. Conditions: none. -/
import Derived.Test.YtndbkcpofkdbiaaWv9
set_option linter.all false
namespace Av
open Go
set_option maxRecDepth 100000
theorem qm4 : callK T2 100 64 [.agg (frC (false, [1], [1])), .agg (frC (false, [1], [2]))] [] = some (.agg (frO (false, [1], [2])), []) := by kernel_rfl
theorem qm5 : callK T2 100 64 [.agg (frC (false, [], [1])), .agg (frC (false, [1], [2]))] [] = some (.agg (frO (false, [], [1])), []) := by kernel_rfl
theorem qm6 : callK T2 100 64 [.agg (frC (false, [3], [5])), .agg (frC (false, [1], [2]))] [] = some (.agg (frO (false, [3], [10])), []) := by kernel_rfl
theorem qm7 : callK T2 100 64 [.agg (frC (false, [1], [7])), .agg (frC (false, [1], [2]))] [] = some (.agg (frO (false, [1], [14])), []) := by kernel_rfl
end Av

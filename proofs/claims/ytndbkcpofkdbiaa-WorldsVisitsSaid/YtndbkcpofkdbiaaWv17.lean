/- A part of the proof: WorldsVisits: for every input the law returns true and the argument reads behind the call as it read before. Conditions: none. -/
import Derived.Test.YtndbkcpofkdbiaaWv9
set_option linter.all false
namespace Av
open Go
set_option maxRecDepth 100000
theorem qm0 : callK T2 100 64 [.agg (frC (false, [1], [2])), .agg (frC (false, [1], [2]))] [] = some (.agg (frO (false, [1], [4])), []) := by kernel_rfl
theorem qm1 : callK T2 100 64 [.agg (frC (false, [1], [3])), .agg (frC (false, [1], [2]))] [] = some (.agg (frO (false, [1], [6])), []) := by kernel_rfl
theorem qm2 : callK T2 100 64 [.agg (frC (false, [2], [3])), .agg (frC (false, [1], [2]))] [] = some (.agg (frO (false, [1], [3])), []) := by kernel_rfl
theorem qm3 : callK T2 100 64 [.agg (frC (false, [1], [4])), .agg (frC (false, [1], [2]))] [] = some (.agg (frO (false, [1], [8])), []) := by kernel_rfl
end Av

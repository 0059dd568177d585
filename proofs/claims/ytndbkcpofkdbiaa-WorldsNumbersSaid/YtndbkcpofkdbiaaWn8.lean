/- A part of the proof: WorldsNumbers: for every input the law returns true and every argument reads behind the call as it read before. Conditions: none. -/
import Derived.Test.YtndbkcpofkdbiaaWn6
set_option linter.all false
namespace Av
open Go
theorem kn57 : callK T1 100 57 [spK, .slice false 1 2 [.int .i64 (-1), .int .i64 0]] [] = some (.tup [.agg [.bool false, uO 1, uO 6], .int .i64 0], []) := by kernel_rfl
theorem k10z0 : callK T1 100 10 [.agg [blk 0]] [] = some (oneV, []) := by kernel_rfl
theorem k10z1 : callK T1 100 10 [.agg [blk 1]] [] = some (oneV, []) := by kernel_rfl
theorem k10z2 : callK T1 100 10 [.agg [blk 2]] [] = some (oneV, []) := by kernel_rfl
theorem k10z3 : callK T1 100 10 [.agg [blk 3]] [] = some (oneV, []) := by kernel_rfl
theorem k10z4 : callK T1 100 10 [.agg [blk 4]] [] = some (oneV, []) := by kernel_rfl
theorem k4z0 : callK T1 100 4 [.agg [.bool false, .slice false 1 0 [], .slice false 1 0 []]] [] = some (.int .i64 0, []) := by kernel_rfl
theorem k4z1 : callK T1 100 4 [.agg [.bool false, .slice false 1 1 [.int .u32 1], .slice false 1 1 [.int .u32 1]]] [] = some (.int .i64 1, []) := by kernel_rfl
end Av

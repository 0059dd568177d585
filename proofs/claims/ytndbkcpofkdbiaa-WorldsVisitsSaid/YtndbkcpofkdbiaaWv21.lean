/- A part of the proof: WorldsVisits: for every input the law returns true and the argument reads behind the call as it read before. Conditions: none. -/
import Derived.Test.YtndbkcpofkdbiaaWv9
set_option linter.all false
namespace Av
open Go
set_option maxRecDepth 100000
theorem qr40 : callK T2 100 10 [.agg [gblk [(false, [1], [2]), (false, [1], [4])]]] [] = some (.agg (frO (false, [1], [4])), []) := by kernel_rfl
theorem qr41 : callK T2 100 10 [.agg [gblk [(false, [1], [2]), (false, [1], [6])]]] [] = some (.agg (frO (false, [1], [3])), []) := by kernel_rfl
theorem qr42 : callK T2 100 10 [.agg [gblk [(false, [1], [2]), (false, [1], [3])]]] [] = some (.agg (frO (false, [1], [6])), []) := by kernel_rfl
theorem qr43 : callK T2 100 10 [.agg [gblk [(false, [1], [2]), (false, [1], [8])]]] [] = some (.agg (frO (false, [3], [8])), []) := by kernel_rfl
theorem qr44 : callK T2 100 10 [.agg [gblk [(false, [1], [2]), (false, [1], [2])]]] [] = some (.agg (frO (false, [], [1])), []) := by kernel_rfl
theorem qr45 : callK T2 100 10 [.agg [gblk [(false, [1], [2]), (false, [], [1])]]] [] = some (.agg (frO (false, [1], [2])), []) := by kernel_rfl
theorem qr46 : callK T2 100 10 [.agg [gblk [(false, [1], [2]), (false, [3], [10])]]] [] = some (.agg (frO (false, [1], [5])), []) := by kernel_rfl
theorem qr47 : callK T2 100 10 [.agg [gblk [(false, [1], [2]), (false, [1], [14])]]] [] = some (.agg (frO (false, [3], [7])), []) := by kernel_rfl
theorem qr5 : callK T2 100 10 [.agg [gblk [(false, [], [1])]]] [] = some (.agg (frO (false, [1], [1])), []) := by kernel_rfl
theorem qr50 : callK T2 100 10 [.agg [gblk [(false, [], [1]), (false, [1], [4])]]] [] = some (.agg (frO (false, [3], [4])), []) := by kernel_rfl
theorem qr51 : callK T2 100 10 [.agg [gblk [(false, [], [1]), (false, [1], [6])]]] [] = some (.agg (frO (false, [5], [6])), []) := by kernel_rfl
theorem qr52 : callK T2 100 10 [.agg [gblk [(false, [], [1]), (false, [1], [3])]]] [] = some (.agg (frO (false, [2], [3])), []) := by kernel_rfl
theorem qr53 : callK T2 100 10 [.agg [gblk [(false, [], [1]), (false, [1], [8])]]] [] = some (.agg (frO (false, [7], [8])), []) := by kernel_rfl
theorem qr54 : callK T2 100 10 [.agg [gblk [(false, [], [1]), (false, [1], [2])]]] [] = some (.agg (frO (false, [1], [2])), []) := by kernel_rfl
theorem qr55 : callK T2 100 10 [.agg [gblk [(false, [], [1]), (false, [], [1])]]] [] = some (.agg (frO (false, [1], [1])), []) := by kernel_rfl
theorem qr56 : callK T2 100 10 [.agg [gblk [(false, [], [1]), (false, [3], [10])]]] [] = some (.agg (frO (false, [7], [10])), []) := by kernel_rfl
theorem qr57 : callK T2 100 10 [.agg [gblk [(false, [], [1]), (false, [1], [14])]]] [] = some (.agg (frO (false, [13], [14])), []) := by kernel_rfl
theorem qr6 : callK T2 100 10 [.agg [gblk [(false, [3], [10])]]] [] = some (.agg (frO (false, [7], [10])), []) := by kernel_rfl
theorem qr60 : callK T2 100 10 [.agg [gblk [(false, [3], [10]), (false, [1], [4])]]] [] = some (.agg (frO (false, [9], [20])), []) := by kernel_rfl
end Av

/- A part of the proof: WorldsVisits: for every input the law returns true and the argument reads behind the call as it read before. Conditions: none. -/
import Derived.Test.YtndbkcpofkdbiaaWv9
set_option linter.all false
namespace Av
open Go
set_option maxRecDepth 100000
theorem qr61 : callK T2 100 10 [.agg [gblk [(false, [3], [10]), (false, [1], [6])]]] [] = some (.agg (frO (false, [8], [15])), []) := by kernel_rfl
theorem qr62 : callK T2 100 10 [.agg [gblk [(false, [3], [10]), (false, [1], [3])]]] [] = some (.agg (frO (false, [11], [30])), []) := by kernel_rfl
theorem qr63 : callK T2 100 10 [.agg [gblk [(false, [3], [10]), (false, [1], [8])]]] [] = some (.agg (frO (false, [23], [40])), []) := by kernel_rfl
theorem qr64 : callK T2 100 10 [.agg [gblk [(false, [3], [10]), (false, [1], [2])]]] [] = some (.agg (frO (false, [1], [5])), []) := by kernel_rfl
theorem qr65 : callK T2 100 10 [.agg [gblk [(false, [3], [10]), (false, [], [1])]]] [] = some (.agg (frO (false, [7], [10])), []) := by kernel_rfl
theorem qr66 : callK T2 100 10 [.agg [gblk [(false, [3], [10]), (false, [3], [10])]]] [] = some (.agg (frO (false, [2], [5])), []) := by kernel_rfl
theorem qr67 : callK T2 100 10 [.agg [gblk [(false, [3], [10]), (false, [1], [14])]]] [] = some (.agg (frO (false, [22], [35])), []) := by kernel_rfl
theorem qr7 : callK T2 100 10 [.agg [gblk [(false, [1], [14])]]] [] = some (.agg (frO (false, [13], [14])), []) := by kernel_rfl
theorem qr70 : callK T2 100 10 [.agg [gblk [(false, [1], [14]), (false, [1], [4])]]] [] = some (.agg (frO (false, [19], [28])), []) := by kernel_rfl
theorem qr71 : callK T2 100 10 [.agg [gblk [(false, [1], [14]), (false, [1], [6])]]] [] = some (.agg (frO (false, [16], [21])), []) := by kernel_rfl
theorem qr72 : callK T2 100 10 [.agg [gblk [(false, [1], [14]), (false, [1], [3])]]] [] = some (.agg (frO (false, [25], [42])), []) := by kernel_rfl
theorem qr73 : callK T2 100 10 [.agg [gblk [(false, [1], [14]), (false, [1], [8])]]] [] = some (.agg (frO (false, [45], [56])), []) := by kernel_rfl
theorem qr74 : callK T2 100 10 [.agg [gblk [(false, [1], [14]), (false, [1], [2])]]] [] = some (.agg (frO (false, [3], [7])), []) := by kernel_rfl
theorem qr75 : callK T2 100 10 [.agg [gblk [(false, [1], [14]), (false, [], [1])]]] [] = some (.agg (frO (false, [13], [14])), []) := by kernel_rfl
theorem qr76 : callK T2 100 10 [.agg [gblk [(false, [1], [14]), (false, [3], [10])]]] [] = some (.agg (frO (false, [22], [35])), []) := by kernel_rfl
theorem qr77 : callK T2 100 10 [.agg [gblk [(false, [1], [14]), (false, [1], [14])]]] [] = some (.agg (frO (false, [6], [7])), []) := by kernel_rfl
end Av

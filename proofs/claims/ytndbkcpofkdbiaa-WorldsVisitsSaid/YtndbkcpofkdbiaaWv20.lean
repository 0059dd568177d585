/- A part of the proof: WorldsVisits: for every input the law returns true and the argument reads behind the call as it read before. Conditions: none. -/
import Derived.Test.YtndbkcpofkdbiaaWv9
set_option linter.all false
namespace Av
open Go
set_option maxRecDepth 100000
theorem qr2 : callK T2 100 10 [.agg [gblk [(false, [1], [3])]]] [] = some (.agg (frO (false, [2], [3])), []) := by kernel_rfl
theorem qr20 : callK T2 100 10 [.agg [gblk [(false, [1], [3]), (false, [1], [4])]]] [] = some (.agg (frO (false, [5], [12])), []) := by kernel_rfl
theorem qr21 : callK T2 100 10 [.agg [gblk [(false, [1], [3]), (false, [1], [6])]]] [] = some (.agg (frO (false, [1], [2])), []) := by kernel_rfl
theorem qr22 : callK T2 100 10 [.agg [gblk [(false, [1], [3]), (false, [1], [3])]]] [] = some (.agg (frO (false, [1], [3])), []) := by kernel_rfl
theorem qr23 : callK T2 100 10 [.agg [gblk [(false, [1], [3]), (false, [1], [8])]]] [] = some (.agg (frO (false, [13], [24])), []) := by kernel_rfl
theorem qr24 : callK T2 100 10 [.agg [gblk [(false, [1], [3]), (false, [1], [2])]]] [] = some (.agg (frO (false, [1], [6])), []) := by kernel_rfl
theorem qr25 : callK T2 100 10 [.agg [gblk [(false, [1], [3]), (false, [], [1])]]] [] = some (.agg (frO (false, [2], [3])), []) := by kernel_rfl
theorem qr26 : callK T2 100 10 [.agg [gblk [(false, [1], [3]), (false, [3], [10])]]] [] = some (.agg (frO (false, [11], [30])), []) := by kernel_rfl
theorem qr27 : callK T2 100 10 [.agg [gblk [(false, [1], [3]), (false, [1], [14])]]] [] = some (.agg (frO (false, [25], [42])), []) := by kernel_rfl
theorem qr3 : callK T2 100 10 [.agg [gblk [(false, [1], [8])]]] [] = some (.agg (frO (false, [7], [8])), []) := by kernel_rfl
theorem qr30 : callK T2 100 10 [.agg [gblk [(false, [1], [8]), (false, [1], [4])]]] [] = some (.agg (frO (false, [5], [8])), []) := by kernel_rfl
theorem qr31 : callK T2 100 10 [.agg [gblk [(false, [1], [8]), (false, [1], [6])]]] [] = some (.agg (frO (false, [17], [24])), []) := by kernel_rfl
theorem qr32 : callK T2 100 10 [.agg [gblk [(false, [1], [8]), (false, [1], [3])]]] [] = some (.agg (frO (false, [13], [24])), []) := by kernel_rfl
theorem qr33 : callK T2 100 10 [.agg [gblk [(false, [1], [8]), (false, [1], [8])]]] [] = some (.agg (frO (false, [3], [4])), []) := by kernel_rfl
theorem qr34 : callK T2 100 10 [.agg [gblk [(false, [1], [8]), (false, [1], [2])]]] [] = some (.agg (frO (false, [3], [8])), []) := by kernel_rfl
theorem qr35 : callK T2 100 10 [.agg [gblk [(false, [1], [8]), (false, [], [1])]]] [] = some (.agg (frO (false, [7], [8])), []) := by kernel_rfl
theorem qr36 : callK T2 100 10 [.agg [gblk [(false, [1], [8]), (false, [3], [10])]]] [] = some (.agg (frO (false, [23], [40])), []) := by kernel_rfl
theorem qr37 : callK T2 100 10 [.agg [gblk [(false, [1], [8]), (false, [1], [14])]]] [] = some (.agg (frO (false, [45], [56])), []) := by kernel_rfl
theorem qr4 : callK T2 100 10 [.agg [gblk [(false, [1], [2])]]] [] = some (.agg (frO (false, [1], [2])), []) := by kernel_rfl
end Av

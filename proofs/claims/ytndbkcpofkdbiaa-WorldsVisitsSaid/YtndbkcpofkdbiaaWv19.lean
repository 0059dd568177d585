/- A part of the proof: WorldsVisits: for every input the law returns true and the argument reads behind the call as it read before. Conditions: none. -/
import Derived.Test.YtndbkcpofkdbiaaWv9
set_option linter.all false
namespace Av
open Go
set_option maxRecDepth 100000
theorem qr : callK T2 100 10 [.agg [gblk []]] [] = some (.agg (frO (false, [1], [1])), []) := by kernel_rfl
theorem qr0 : callK T2 100 10 [.agg [gblk [(false, [1], [4])]]] [] = some (.agg (frO (false, [3], [4])), []) := by kernel_rfl
theorem qr00 : callK T2 100 10 [.agg [gblk [(false, [1], [4]), (false, [1], [4])]]] [] = some (.agg (frO (false, [1], [2])), []) := by kernel_rfl
theorem qr01 : callK T2 100 10 [.agg [gblk [(false, [1], [4]), (false, [1], [6])]]] [] = some (.agg (frO (false, [7], [12])), []) := by kernel_rfl
theorem qr02 : callK T2 100 10 [.agg [gblk [(false, [1], [4]), (false, [1], [3])]]] [] = some (.agg (frO (false, [5], [12])), []) := by kernel_rfl
theorem qr03 : callK T2 100 10 [.agg [gblk [(false, [1], [4]), (false, [1], [8])]]] [] = some (.agg (frO (false, [5], [8])), []) := by kernel_rfl
theorem qr04 : callK T2 100 10 [.agg [gblk [(false, [1], [4]), (false, [1], [2])]]] [] = some (.agg (frO (false, [1], [4])), []) := by kernel_rfl
theorem qr05 : callK T2 100 10 [.agg [gblk [(false, [1], [4]), (false, [], [1])]]] [] = some (.agg (frO (false, [3], [4])), []) := by kernel_rfl
theorem qr06 : callK T2 100 10 [.agg [gblk [(false, [1], [4]), (false, [3], [10])]]] [] = some (.agg (frO (false, [9], [20])), []) := by kernel_rfl
theorem qr07 : callK T2 100 10 [.agg [gblk [(false, [1], [4]), (false, [1], [14])]]] [] = some (.agg (frO (false, [19], [28])), []) := by kernel_rfl
theorem qr1 : callK T2 100 10 [.agg [gblk [(false, [1], [6])]]] [] = some (.agg (frO (false, [5], [6])), []) := by kernel_rfl
theorem qr10 : callK T2 100 10 [.agg [gblk [(false, [1], [6]), (false, [1], [4])]]] [] = some (.agg (frO (false, [7], [12])), []) := by kernel_rfl
theorem qr11 : callK T2 100 10 [.agg [gblk [(false, [1], [6]), (false, [1], [6])]]] [] = some (.agg (frO (false, [2], [3])), []) := by kernel_rfl
theorem qr12 : callK T2 100 10 [.agg [gblk [(false, [1], [6]), (false, [1], [3])]]] [] = some (.agg (frO (false, [1], [2])), []) := by kernel_rfl
theorem qr13 : callK T2 100 10 [.agg [gblk [(false, [1], [6]), (false, [1], [8])]]] [] = some (.agg (frO (false, [17], [24])), []) := by kernel_rfl
theorem qr14 : callK T2 100 10 [.agg [gblk [(false, [1], [6]), (false, [1], [2])]]] [] = some (.agg (frO (false, [1], [3])), []) := by kernel_rfl
theorem qr15 : callK T2 100 10 [.agg [gblk [(false, [1], [6]), (false, [], [1])]]] [] = some (.agg (frO (false, [5], [6])), []) := by kernel_rfl
theorem qr16 : callK T2 100 10 [.agg [gblk [(false, [1], [6]), (false, [3], [10])]]] [] = some (.agg (frO (false, [8], [15])), []) := by kernel_rfl
theorem qr17 : callK T2 100 10 [.agg [gblk [(false, [1], [6]), (false, [1], [14])]]] [] = some (.agg (frO (false, [16], [21])), []) := by kernel_rfl
end Av

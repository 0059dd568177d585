/- A part of the proof: WorldsVisits: for every input the law returns true and the argument reads behind the call as it read before. Conditions: none. -/
import Derived.Test.YtndbkcpofkdbiaaWv9
import Derived.KernelRfl
set_option linter.all false
namespace Av
open Go
def T1 (g : Nat) : Option Fun := tab1[g]?
theorem has1 : Has1 T1 := fun _ _ h => h
def oneV : D := .agg [.bool false, .slice true 1 1 [.int .u32 1], .slice true 1 1 [.int .u32 1]]
def u1 (n : Int) : D := .slice false 1 1 [.int .u32 n]
def uO (n : Int) : D := .slice true 1 1 [.int .u32 n]
def spK : D := .agg [.slice false 1 2 [.slice false 3 2 [.bool false, u1 1, u1 3, .bool false, u1 1, u1 3], .slice false 3 1 [.bool false, u1 1, u1 2]]]
theorem kn45a : callK T1 100 45 [.int .i64 1] [] = some (.agg [.bool false, uO 1, uO 3], []) := by kernel_rfl
theorem kn45b : callK T1 100 45 [.int .i64 0] [] = some (.agg [.bool false, uO 1, uO 2], []) := by kernel_rfl
theorem kn59 : callK T1 100 59 [u1 6] [] = some (.str [54], []) := by kernel_rfl
theorem kn60 : callK T1 100 60 [.agg [.bool false, u1 1, u1 6]] [] = some (.str [49, 47, 54], []) := by kernel_rfl
end Av

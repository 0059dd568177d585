/- A part of the proof: WorldsNumbers: for every input the law returns true and every argument reads behind the call as it read before. Conditions: none. -/
import Derived.Test.YtndbkcpofkdbiaaWn9
import Derived.Test.YtndbkcpofkdbiaaRows
import Derived.KernelRfl
set_option linter.all false
namespace Go.Proofs.Ytndbkcpofkdbiaa
open Go Av
def fnIds : List Nat := [3, 9, 10, 38, 73, 62, 85, 48, 91, 84, 36, 70, 44, 19, 29, 15, 63, 86, 49, 87, 95, 52, 43, 11, 50, 51, 76, 77, 78, 79, 75, 61, 83, 94, 47, 12, 13, 53, 14, 32, 54, 16, 17, 18, 20, 55, 57, 81, 69, 88, 80, 92, 99, 97, 98, 100, 93, 24, 28, 56, 45, 59]
def fm1 (g : Nat) : Nat := fnIds.getD g 0
theorem chk0 : chkFn Try.prog fm1 F.f0 Try.f3 = true := by kernel_rfl
theorem chk1 : chkFn Try.prog fm1 F.f1 Try.f9 = true := by kernel_rfl
theorem chk2 : chkFn Try.prog fm1 F.f2 Try.f10 = true := by kernel_rfl
theorem chk3 : chkFn Try.prog fm1 F.f3 Try.f38 = true := by kernel_rfl
theorem chk4 : chkFn Try.prog fm1 F.f4 Try.f73 = true := by kernel_rfl
theorem chk5 : chkFn Try.prog fm1 F.f5 Try.f62 = true := by kernel_rfl
theorem chk6 : chkFn Try.prog fm1 F.f6 Try.f85 = true := by kernel_rfl
theorem chk7 : chkFn Try.prog fm1 F.f7 Try.f48 = true := by kernel_rfl
theorem chk8 : chkFn Try.prog fm1 F.f8 Try.f91 = true := by kernel_rfl
theorem chk9 : chkFn Try.prog fm1 F.f9 Try.f84 = true := by kernel_rfl
theorem chk10 : chkFn Try.prog fm1 F.f10 Try.f36 = true := by kernel_rfl
theorem chk11 : chkFn Try.prog fm1 F.f11 Try.f70 = true := by kernel_rfl
theorem chk12 : chkFn Try.prog fm1 F.f12 Try.f44 = true := by kernel_rfl
theorem chk13 : chkFn Try.prog fm1 F.f13 Try.f19 = true := by kernel_rfl
theorem chk14 : chkFn Try.prog fm1 F.f14 Try.f29 = true := by kernel_rfl
theorem chk15 : chkFn Try.prog fm1 F.f15 Try.f15 = true := by kernel_rfl
theorem chk16 : chkFn Try.prog fm1 F.f16 Try.f63 = true := by kernel_rfl
theorem chk17 : chkFn Try.prog fm1 F.f17 Try.f86 = true := by kernel_rfl
theorem chk18 : chkFn Try.prog fm1 F.f18 Try.f49 = true := by kernel_rfl
theorem chk19 : chkFn Try.prog fm1 F.f19 Try.f87 = true := by kernel_rfl
theorem chk20 : chkFn Try.prog fm1 F.f20 Try.f95 = true := by kernel_rfl
theorem chk21 : chkFn Try.prog fm1 F.f21 Try.f52 = true := by kernel_rfl
theorem chk22 : chkFn Try.prog fm1 F.f22 Try.f43 = true := by kernel_rfl
theorem chk23 : chkFn Try.prog fm1 F.f23 Try.f11 = true := by kernel_rfl
theorem chk24 : chkFn Try.prog fm1 F.f24 Try.f50 = true := by kernel_rfl
theorem chk25 : chkFn Try.prog fm1 F.f25 Try.f51 = true := by kernel_rfl
theorem chk26 : chkFn Try.prog fm1 F.f26 Try.f76 = true := by kernel_rfl
theorem chk27 : chkFn Try.prog fm1 F.f27 Try.f77 = true := by kernel_rfl
theorem chk28 : chkFn Try.prog fm1 F.f28 Try.f78 = true := by kernel_rfl
theorem chk29 : chkFn Try.prog fm1 F.f29 Try.f79 = true := by kernel_rfl
theorem chk30 : chkFn Try.prog fm1 F.f30 Try.f75 = true := by kernel_rfl
theorem chk31 : chkFn Try.prog fm1 F.f31 Try.f61 = true := by kernel_rfl
theorem chk32 : chkFn Try.prog fm1 F.f32 Try.f83 = true := by kernel_rfl
theorem chk33 : chkFn Try.prog fm1 F.f33 Try.f94 = true := by kernel_rfl
theorem chk34 : chkFn Try.prog fm1 F.f34 Try.f47 = true := by kernel_rfl
theorem chk35 : chkFn Try.prog fm1 F.f35 Try.f12 = true := by kernel_rfl
theorem chk36 : chkFn Try.prog fm1 F.f36 Try.f13 = true := by kernel_rfl
theorem chk37 : chkFn Try.prog fm1 F.f37 Try.f53 = true := by kernel_rfl
theorem chk38 : chkFn Try.prog fm1 F.f38 Try.f14 = true := by kernel_rfl
theorem chk39 : chkFn Try.prog fm1 F.f39 Try.f32 = true := by kernel_rfl
theorem chk40 : chkFn Try.prog fm1 F.f40 Try.f54 = true := by kernel_rfl
theorem chk41 : chkFn Try.prog fm1 F.f41 Try.f16 = true := by kernel_rfl
theorem chk42 : chkFn Try.prog fm1 F.f42 Try.f17 = true := by kernel_rfl
theorem chk43 : chkFn Try.prog fm1 F.f43 Try.f18 = true := by kernel_rfl
theorem chk44 : chkFn Try.prog fm1 F.f44 Try.f20 = true := by kernel_rfl
theorem chk45 : chkFn Try.prog fm1 F.f45 Try.f55 = true := by kernel_rfl
theorem chk46 : chkFn Try.prog fm1 F.f46 Try.f57 = true := by kernel_rfl
theorem chk47 : chkFn Try.prog fm1 F.f47 Try.f81 = true := by kernel_rfl
theorem chk48 : chkFn Try.prog fm1 F.f48 Try.f69 = true := by kernel_rfl
theorem chk49 : chkFn Try.prog fm1 F.f49 Try.f88 = true := by kernel_rfl
theorem chk50 : chkFn Try.prog fm1 F.f50 Try.f80 = true := by kernel_rfl
theorem chk51 : chkFn Try.prog fm1 F.f51 Try.f92 = true := by kernel_rfl
theorem chk52 : chkFn Try.prog fm1 F.f52 Try.f99 = true := by kernel_rfl
theorem chk53 : chkFn Try.prog fm1 F.f53 Try.f97 = true := by kernel_rfl
theorem chk54 : chkFn Try.prog fm1 F.f54 Try.f98 = true := by kernel_rfl
theorem chk55 : chkFn Try.prog fm1 F.f55 Try.f100 = true := by kernel_rfl
theorem chk56 : chkFn Try.prog fm1 F.f56 Try.f93 = true := by kernel_rfl
theorem chk57 : chkFn Try.prog fm1 F.f57 Try.f24 = true := by kernel_rfl
theorem chk58 : chkFn Try.prog fm1 F.f58 Try.f28 = true := by kernel_rfl
theorem chk59 : chkFn Try.prog fm1 F.f59 Try.f56 = true := by kernel_rfl
theorem chk60 : chkFn Try.prog fm1 F.f60 Try.f45 = true := by kernel_rfl
theorem chk61 : chkFn Try.prog fm1 F.f61 Try.f59 = true := by kernel_rfl
theorem tabEntry {g : Nat} {f : Fun} {a : AFn} {fn : Func} (h : T1 g = some f) (h0 : T1 g = some (.code a)) (hf : Try.prog.funcs[fm1 g]? = some fn) (hc : chkFn Try.prog fm1 a fn = true) :
    ∃ a fn, f = .code a ∧ Try.prog.funcs[fm1 g]? = some fn ∧ chkFn Try.prog fm1 a fn = true :=
  ⟨a, fn, Option.some.inj (h.symm.trans h0), hf, hc⟩
theorem tabRows (g : Nat) (f : Fun) (h : T1 g = some f) : ∃ a fn, f = .code a ∧ Try.prog.funcs[fm1 g]? = some fn ∧ chkFn Try.prog fm1 a fn = true := by
  match g, h with
  | 0, h => exact tabEntry h rfl Try.func3 chk0
  | 1, h => exact tabEntry h rfl Try.func9 chk1
  | 2, h => exact tabEntry h rfl Try.func10 chk2
  | 3, h => exact tabEntry h rfl Try.func38 chk3
  | 4, h => exact tabEntry h rfl Try.func73 chk4
  | 5, h => exact tabEntry h rfl Try.func62 chk5
  | 6, h => exact tabEntry h rfl Try.func85 chk6
  | 7, h => exact tabEntry h rfl Try.func48 chk7
  | 8, h => exact tabEntry h rfl Try.func91 chk8
  | 9, h => exact tabEntry h rfl Try.func84 chk9
  | 10, h => exact tabEntry h rfl Try.func36 chk10
  | 11, h => exact tabEntry h rfl Try.func70 chk11
  | 12, h => exact tabEntry h rfl Try.func44 chk12
  | 13, h => exact tabEntry h rfl Try.func19 chk13
  | 14, h => exact tabEntry h rfl Try.func29 chk14
  | 15, h => exact tabEntry h rfl Try.func15 chk15
  | 16, h => exact tabEntry h rfl Try.func63 chk16
  | 17, h => exact tabEntry h rfl Try.func86 chk17
  | 18, h => exact tabEntry h rfl Try.func49 chk18
  | 19, h => exact tabEntry h rfl Try.func87 chk19
  | 20, h => exact tabEntry h rfl Try.func95 chk20
  | 21, h => exact tabEntry h rfl Try.func52 chk21
  | 22, h => exact tabEntry h rfl Try.func43 chk22
  | 23, h => exact tabEntry h rfl Try.func11 chk23
  | 24, h => exact tabEntry h rfl Try.func50 chk24
  | 25, h => exact tabEntry h rfl Try.func51 chk25
  | 26, h => exact tabEntry h rfl Try.func76 chk26
  | 27, h => exact tabEntry h rfl Try.func77 chk27
  | 28, h => exact tabEntry h rfl Try.func78 chk28
  | 29, h => exact tabEntry h rfl Try.func79 chk29
  | 30, h => exact tabEntry h rfl Try.func75 chk30
  | 31, h => exact tabEntry h rfl Try.func61 chk31
  | 32, h => exact tabEntry h rfl Try.func83 chk32
  | 33, h => exact tabEntry h rfl Try.func94 chk33
  | 34, h => exact tabEntry h rfl Try.func47 chk34
  | 35, h => exact tabEntry h rfl Try.func12 chk35
  | 36, h => exact tabEntry h rfl Try.func13 chk36
  | 37, h => exact tabEntry h rfl Try.func53 chk37
  | 38, h => exact tabEntry h rfl Try.func14 chk38
  | 39, h => exact tabEntry h rfl Try.func32 chk39
  | 40, h => exact tabEntry h rfl Try.func54 chk40
  | 41, h => exact tabEntry h rfl Try.func16 chk41
  | 42, h => exact tabEntry h rfl Try.func17 chk42
  | 43, h => exact tabEntry h rfl Try.func18 chk43
  | 44, h => exact tabEntry h rfl Try.func20 chk44
  | 45, h => exact tabEntry h rfl Try.func55 chk45
  | 46, h => exact tabEntry h rfl Try.func57 chk46
  | 47, h => exact tabEntry h rfl Try.func81 chk47
  | 48, h => exact tabEntry h rfl Try.func69 chk48
  | 49, h => exact tabEntry h rfl Try.func88 chk49
  | 50, h => exact tabEntry h rfl Try.func80 chk50
  | 51, h => exact tabEntry h rfl Try.func92 chk51
  | 52, h => exact tabEntry h rfl Try.func99 chk52
  | 53, h => exact tabEntry h rfl Try.func97 chk53
  | 54, h => exact tabEntry h rfl Try.func98 chk54
  | 55, h => exact tabEntry h rfl Try.func100 chk55
  | 56, h => exact tabEntry h rfl Try.func93 chk56
  | 57, h => exact tabEntry h rfl Try.func24 chk57
  | 58, h => exact tabEntry h rfl Try.func28 chk58
  | 59, h => exact tabEntry h rfl Try.func56 chk59
  | 60, h => exact tabEntry h rfl Try.func45 chk60
  | 61, h => exact tabEntry h rfl Try.func59 chk61
  | n + 62, h =>
    have : T1 (n + 62) = none := List.getElem?_eq_none (by simp [tab1])
    rw [this] at h
    cases h
theorem tabOK : TabOK Try.prog fm1 T1 := by
  intro g f h
  obtain ⟨a, fn, rfl, h1, h2⟩ := tabRows g f h
  exact ⟨fn, h1, h2⟩
theorem mixed : Try.prog.follows .mixedOrders = true := by kernel_rfl
end Go.Proofs.Ytndbkcpofkdbiaa

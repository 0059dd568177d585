/- A part of the proof: WorldsVisits: for every input the law returns true and the argument reads behind the call as it read before. Conditions: none. -/
import Derived.Test.YtndbkcpofkdbiaaWv5
import Derived.Test.YtndbkcpofkdbiaaWv7
import Derived.Test.YtndbkcpofkdbiaaRows
import Derived.KernelRfl
set_option linter.all false
namespace Go.Proofs.Ytndbkcpofkdbiaa
open Go Av
def fnIds : List Nat := [3, 9, 10, 38, 73, 62, 85, 48, 91, 84, 36, 70, 44, 19, 29, 15, 63, 86, 49, 87, 95, 52, 43, 11, 50, 51, 76, 77, 78, 79, 75, 61, 83, 94, 47, 12, 13, 53, 14, 32, 54, 16, 17, 18, 20, 55, 57, 81, 69, 88, 80, 92, 99, 97, 98, 100, 93, 24, 28, 56, 45, 59, 6, 21, 58, 68, 41, 31, 64]
def fm2 (g : Nat) : Nat := fnIds.getD g 0
theorem chk0 : chkFn Try.prog fm2 F.f0 Try.f3 = true := by kernel_rfl
theorem chk1 : chkFn Try.prog fm2 F.f1 Try.f9 = true := by kernel_rfl
theorem chk2 : chkFn Try.prog fm2 F.f2 Try.f10 = true := by kernel_rfl
theorem chk3 : chkFn Try.prog fm2 F.f3 Try.f38 = true := by kernel_rfl
theorem chk4 : chkFn Try.prog fm2 F.f4 Try.f73 = true := by kernel_rfl
theorem chk5 : chkFn Try.prog fm2 F.f5 Try.f62 = true := by kernel_rfl
theorem chk6 : chkFn Try.prog fm2 F.f6 Try.f85 = true := by kernel_rfl
theorem chk7 : chkFn Try.prog fm2 F.f7 Try.f48 = true := by kernel_rfl
theorem chk8 : chkFn Try.prog fm2 F.f8 Try.f91 = true := by kernel_rfl
theorem chk9 : chkFn Try.prog fm2 F.f9 Try.f84 = true := by kernel_rfl
theorem chk10 : chkFn Try.prog fm2 F.f10 Try.f36 = true := by kernel_rfl
theorem chk11 : chkFn Try.prog fm2 F.f11 Try.f70 = true := by kernel_rfl
theorem chk12 : chkFn Try.prog fm2 F.f12 Try.f44 = true := by kernel_rfl
theorem chk13 : chkFn Try.prog fm2 F.f13 Try.f19 = true := by kernel_rfl
theorem chk14 : chkFn Try.prog fm2 F.f14 Try.f29 = true := by kernel_rfl
theorem chk15 : chkFn Try.prog fm2 F.f15 Try.f15 = true := by kernel_rfl
theorem chk16 : chkFn Try.prog fm2 F.f16 Try.f63 = true := by kernel_rfl
theorem chk17 : chkFn Try.prog fm2 F.f17 Try.f86 = true := by kernel_rfl
theorem chk18 : chkFn Try.prog fm2 F.f18 Try.f49 = true := by kernel_rfl
theorem chk19 : chkFn Try.prog fm2 F.f19 Try.f87 = true := by kernel_rfl
theorem chk20 : chkFn Try.prog fm2 F.f20 Try.f95 = true := by kernel_rfl
theorem chk21 : chkFn Try.prog fm2 F.f21 Try.f52 = true := by kernel_rfl
theorem chk22 : chkFn Try.prog fm2 F.f22 Try.f43 = true := by kernel_rfl
theorem chk23 : chkFn Try.prog fm2 F.f23 Try.f11 = true := by kernel_rfl
theorem chk24 : chkFn Try.prog fm2 F.f24 Try.f50 = true := by kernel_rfl
theorem chk25 : chkFn Try.prog fm2 F.f25 Try.f51 = true := by kernel_rfl
theorem chk26 : chkFn Try.prog fm2 F.f26 Try.f76 = true := by kernel_rfl
theorem chk27 : chkFn Try.prog fm2 F.f27 Try.f77 = true := by kernel_rfl
theorem chk28 : chkFn Try.prog fm2 F.f28 Try.f78 = true := by kernel_rfl
theorem chk29 : chkFn Try.prog fm2 F.f29 Try.f79 = true := by kernel_rfl
theorem chk30 : chkFn Try.prog fm2 F.f30 Try.f75 = true := by kernel_rfl
theorem chk31 : chkFn Try.prog fm2 F.f31 Try.f61 = true := by kernel_rfl
theorem chk32 : chkFn Try.prog fm2 F.f32 Try.f83 = true := by kernel_rfl
theorem chk33 : chkFn Try.prog fm2 F.f33 Try.f94 = true := by kernel_rfl
theorem chk34 : chkFn Try.prog fm2 F.f34 Try.f47 = true := by kernel_rfl
theorem chk35 : chkFn Try.prog fm2 F.f35 Try.f12 = true := by kernel_rfl
theorem chk36 : chkFn Try.prog fm2 F.f36 Try.f13 = true := by kernel_rfl
theorem chk37 : chkFn Try.prog fm2 F.f37 Try.f53 = true := by kernel_rfl
theorem chk38 : chkFn Try.prog fm2 F.f38 Try.f14 = true := by kernel_rfl
theorem chk39 : chkFn Try.prog fm2 F.f39 Try.f32 = true := by kernel_rfl
theorem chk40 : chkFn Try.prog fm2 F.f40 Try.f54 = true := by kernel_rfl
theorem chk41 : chkFn Try.prog fm2 F.f41 Try.f16 = true := by kernel_rfl
theorem chk42 : chkFn Try.prog fm2 F.f42 Try.f17 = true := by kernel_rfl
theorem chk43 : chkFn Try.prog fm2 F.f43 Try.f18 = true := by kernel_rfl
theorem chk44 : chkFn Try.prog fm2 F.f44 Try.f20 = true := by kernel_rfl
theorem chk45 : chkFn Try.prog fm2 F.f45 Try.f55 = true := by kernel_rfl
theorem chk46 : chkFn Try.prog fm2 F.f46 Try.f57 = true := by kernel_rfl
theorem chk47 : chkFn Try.prog fm2 F.f47 Try.f81 = true := by kernel_rfl
theorem chk48 : chkFn Try.prog fm2 F.f48 Try.f69 = true := by kernel_rfl
theorem chk49 : chkFn Try.prog fm2 F.f49 Try.f88 = true := by kernel_rfl
theorem chk50 : chkFn Try.prog fm2 F.f50 Try.f80 = true := by kernel_rfl
theorem chk51 : chkFn Try.prog fm2 F.f51 Try.f92 = true := by kernel_rfl
theorem chk52 : chkFn Try.prog fm2 F.f52 Try.f99 = true := by kernel_rfl
theorem chk53 : chkFn Try.prog fm2 F.f53 Try.f97 = true := by kernel_rfl
theorem chk54 : chkFn Try.prog fm2 F.f54 Try.f98 = true := by kernel_rfl
theorem chk55 : chkFn Try.prog fm2 F.f55 Try.f100 = true := by kernel_rfl
theorem chk56 : chkFn Try.prog fm2 F.f56 Try.f93 = true := by kernel_rfl
theorem chk57 : chkFn Try.prog fm2 F.f57 Try.f24 = true := by kernel_rfl
theorem chk58 : chkFn Try.prog fm2 F.f58 Try.f28 = true := by kernel_rfl
theorem chk59 : chkFn Try.prog fm2 F.f59 Try.f56 = true := by kernel_rfl
theorem chk60 : chkFn Try.prog fm2 F.f60 Try.f45 = true := by kernel_rfl
theorem chk61 : chkFn Try.prog fm2 F.f61 Try.f59 = true := by kernel_rfl
theorem chk62 : chkFn Try.prog fm2 F.f62 Try.f6 = true := by kernel_rfl
theorem chk63 : chkFn Try.prog fm2 F.f63 Try.f21 = true := by kernel_rfl
theorem chk64 : chkFn Try.prog fm2 F.f64 Try.f58 = true := by kernel_rfl
theorem chk65 : chkFn Try.prog fm2 F.f65 Try.f68 = true := by kernel_rfl
theorem chk66 : chkFn Try.prog fm2 F.f66 Try.f41 = true := by kernel_rfl
theorem chk67 : chkFn Try.prog fm2 F.f67 Try.f31 = true := by kernel_rfl
theorem tabEntry {g : Nat} {f : Fun} {a : AFn} {fn : Func} (h : T2 g = some f) (h0 : T2 g = some (.code a)) (hf : Try.prog.funcs[fm2 g]? = some fn) (hc : chkFn Try.prog fm2 a fn = true) :
    (∃ a fn, f = .code a ∧ Try.prog.funcs[fm2 g]? = some fn ∧ chkFn Try.prog fm2 a fn = true) ∨ (∃ p, f = .prim p ∧ PrimOK Try.prog fm2 g p) :=
  .inl ⟨a, fn, Option.some.inj (h.symm.trans h0), hf, hc⟩
set_option maxRecDepth 100000 in
theorem tabRows (g : Nat) (f : Fun) (h : T2 g = some f) : (∃ a fn, f = .code a ∧ Try.prog.funcs[fm2 g]? = some fn ∧ chkFn Try.prog fm2 a fn = true) ∨ (∃ p, f = .prim p ∧ PrimOK Try.prog fm2 g p) := by
  match g, h with
  | 0, h => exact tabEntry h rfl Try.func3 chk0
  | 1, h => exact tabEntry h rfl Try.func9 chk1
  | 2, h => exact tabEntry h rfl Try.func10 chk2
  | 3, h => exact tabEntry h rfl Try.func38 chk3
  | 4, h => exact tabEntry h rfl Try.func73 chk4
  | 5, h => exact tabEntry h rfl Try.func62 chk5
  | 6, h => exact tabEntry h rfl Try.func85 chk6
  | 7, h => exact tabEntry h rfl Try.func48 chk7
  | 8, h => exact tabEntry h rfl Try.func91 chk8
  | 9, h => exact tabEntry h rfl Try.func84 chk9
  | 10, h => exact tabEntry h rfl Try.func36 chk10
  | 11, h => exact tabEntry h rfl Try.func70 chk11
  | 12, h => exact tabEntry h rfl Try.func44 chk12
  | 13, h => exact tabEntry h rfl Try.func19 chk13
  | 14, h => exact tabEntry h rfl Try.func29 chk14
  | 15, h => exact tabEntry h rfl Try.func15 chk15
  | 16, h => exact tabEntry h rfl Try.func63 chk16
  | 17, h => exact tabEntry h rfl Try.func86 chk17
  | 18, h => exact tabEntry h rfl Try.func49 chk18
  | 19, h => exact tabEntry h rfl Try.func87 chk19
  | 20, h => exact tabEntry h rfl Try.func95 chk20
  | 21, h => exact tabEntry h rfl Try.func52 chk21
  | 22, h => exact tabEntry h rfl Try.func43 chk22
  | 23, h => exact tabEntry h rfl Try.func11 chk23
  | 24, h => exact tabEntry h rfl Try.func50 chk24
  | 25, h => exact tabEntry h rfl Try.func51 chk25
  | 26, h => exact tabEntry h rfl Try.func76 chk26
  | 27, h => exact tabEntry h rfl Try.func77 chk27
  | 28, h => exact tabEntry h rfl Try.func78 chk28
  | 29, h => exact tabEntry h rfl Try.func79 chk29
  | 30, h => exact tabEntry h rfl Try.func75 chk30
  | 31, h => exact tabEntry h rfl Try.func61 chk31
  | 32, h => exact tabEntry h rfl Try.func83 chk32
  | 33, h => exact tabEntry h rfl Try.func94 chk33
  | 34, h => exact tabEntry h rfl Try.func47 chk34
  | 35, h => exact tabEntry h rfl Try.func12 chk35
  | 36, h => exact tabEntry h rfl Try.func13 chk36
  | 37, h => exact tabEntry h rfl Try.func53 chk37
  | 38, h => exact tabEntry h rfl Try.func14 chk38
  | 39, h => exact tabEntry h rfl Try.func32 chk39
  | 40, h => exact tabEntry h rfl Try.func54 chk40
  | 41, h => exact tabEntry h rfl Try.func16 chk41
  | 42, h => exact tabEntry h rfl Try.func17 chk42
  | 43, h => exact tabEntry h rfl Try.func18 chk43
  | 44, h => exact tabEntry h rfl Try.func20 chk44
  | 45, h => exact tabEntry h rfl Try.func55 chk45
  | 46, h => exact tabEntry h rfl Try.func57 chk46
  | 47, h => exact tabEntry h rfl Try.func81 chk47
  | 48, h => exact tabEntry h rfl Try.func69 chk48
  | 49, h => exact tabEntry h rfl Try.func88 chk49
  | 50, h => exact tabEntry h rfl Try.func80 chk50
  | 51, h => exact tabEntry h rfl Try.func92 chk51
  | 52, h => exact tabEntry h rfl Try.func99 chk52
  | 53, h => exact tabEntry h rfl Try.func97 chk53
  | 54, h => exact tabEntry h rfl Try.func98 chk54
  | 55, h => exact tabEntry h rfl Try.func100 chk55
  | 56, h => exact tabEntry h rfl Try.func93 chk56
  | 57, h => exact tabEntry h rfl Try.func24 chk57
  | 58, h => exact tabEntry h rfl Try.func28 chk58
  | 59, h => exact tabEntry h rfl Try.func56 chk59
  | 60, h => exact tabEntry h rfl Try.func45 chk60
  | 61, h => exact tabEntry h rfl Try.func59 chk61
  | 62, h => exact tabEntry h rfl Try.func6 chk62
  | 63, h => exact tabEntry h rfl Try.func21 chk63
  | 64, h => exact tabEntry h rfl Try.func58 chk64
  | 65, h => exact tabEntry h rfl Try.func68 chk65
  | 66, h => exact tabEntry h rfl Try.func41 chk66
  | 67, h => exact tabEntry h rfl Try.func31 chk67
  | 68, h => exact .inr ⟨cloneP, Option.some.inj (h.symm.trans rfl), Try.clone_prim rfl⟩
  | n + 69, h =>
    have : T2 (n + 69) = none := List.getElem?_eq_none (by have : (tab1 ++ tab2).length = 69 := rfl; omega)
    rw [this] at h
    cases h
theorem tabOK : TabOK Try.prog fm2 T2 := by
  intro g f h
  rcases tabRows g f h with ⟨a, fn, rfl, h1, h2⟩ | ⟨p, rfl, h1⟩
  · exact ⟨fn, h1, h2⟩
  · exact h1
theorem mixed : Try.prog.follows .mixedOrders = true := by kernel_rfl
end Go.Proofs.Ytndbkcpofkdbiaa

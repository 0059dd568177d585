/- WorldsVisits: for every input the law returns true and the argument reads behind the call as it read before. Conditions: none. -/
import Derived.Test.YtndbkcpofkdbiaaWv8
import Derived.Test.YtndbkcpofkdbiaaWv7
import Derived.Test.YtndbkcpofkdbiaaWv10
import Derived.Test.YtndbkcpofkdbiaaWv14
import Derived.Test.YtndbkcpofkdbiaaWv23
set_option linter.all false
namespace Go.Proofs.Ytndbkcpofkdbiaa
open Go Av Go.ChangeShapes Go.WideShapes Go.ChangeAt Go.RowKit

theorem Try.own : ownKnob Try.prog.godebug = none := by kernel_rfl
theorem Try.laidOut : laidOutB Try.prog = true := by kernel_rfl
theorem Try.cells3 : Try.prog.cellsOf 3 = 1 := by kernel_rfl

theorem visits_known : callW T2 44 [] [] = some (.bool true, []) := callW_mono (fun g f h => has2.1 g f h) knownW

set_option maxRecDepth 100000 in
theorem visits_lifted (os : Os) (started : os.Started) (H : Type) (enc : TypeId × Value → H) :
    ReturnsInHanded {} Try.checked os 6 .any (Rows.worldsVisitsSpec.pre6 enc Try.prog Try.f6 Rows.worldsVisitsRow.domain false) (Rows.worldsVisitsSpec.post enc Try.prog Try.f6 false true false false) := by
  refine returnsInHanded_of_change (C := Try.checked) Try.own started (by kernel_rfl) Try.func6
    (ChangeSpec.witness6 (enc := enc) (C := Try.checked) false ⟨#[], #[.slice none 0 0], []⟩ 8 (by kernel_rfl) (by kernel_rfl) (by kernel_rfl) (by kernel_rfl)) ?_
  intro W base args ds gs before hval0 hW hcnd _
  have hval : ∀ (j : Nat) t v, Try.f6.params[j]? = some t → args[j]? = some v → Value.okWide Try.prog W .any base t v := hval0
  have hW' := hW
  obtain ⟨p, q, hA0, hV, rfl, hfz, hnd⟩ := hW
  have hA : DataW.TrodAll enc Try.prog W 0 (fun _ => true) true Try.f6.params.toList args.toList ds p := hA0
  obtain ⟨rfl, rfl⟩ := trodVars_none hV
  simp only [List.append_nil] at hW'
  have hlt : ∀ x ∈ p, x.block < W.heap.size := fun x hx => by simpa using hW'.lt x hx
  have hargs : ∀ (W' : World), Below W.heap.size W W' → DataW.TrodAll enc Try.prog W' 0 (fun b => decide (b < W.heap.size)) true Try.f6.params.toList args.toList ds p :=
    fun W' hn => trodAll_below Try.laidOut hn (of_decide_eq_true (by kernel_rfl)) hlt hA
  rw [Try.params6] at hA hval
  obtain ⟨v0, d0, rfl, rfl, h0⟩ := trodAll_one hA
  obtain ⟨zs, l0, w0, r0⟩ := open_di fm2 Try.underlying22 Try.underlying3 Try.cells3 (hval 0 22 v0 rfl rfl) h0
  have hx := visits_ok has2 qf2 visits_known good_spS zs l0 spS_two
  have hR : ∀ L, RelL W (allOf W) fm2 L [.slice false 1 zs.length (di zs)] [v0] (fun _ => 0) := fun L => by
    unfold RelL
    refine ⟨_, _, fun _ => 0, fun _ => 0, rfl, r0 L, ?_, fun _ => rfl⟩
    unfold RelL
    exact ⟨rfl, Zero.of_zero⟩
  refine (law_calls mixed tabOK (g := 62) (f := F.f62) rfl hR hx).mono fun e W' ⟨he, hn⟩ => ?_
  subst he
  exact ⟨_, rfl, ⟨_, _, _, [], _, [], hW', trodAll_mk1 (shut_bool Try.underlying4 true), hargs _ hn, rfl, hn.frame _, fun h => by cases h⟩⟩

theorem visits_holds : Rows.WorldsVisitsSaid :=
  OpenClaim.holds_of_wide 6 Try.f6 rfl rfl rfl rfl rfl rfl rfl ⟨rfl, rfl, rfl, rfl, rfl⟩ rfl rfl rfl rfl rfl (by kernel_rfl) Try.func6 (by kernel_rfl)
    (of_decide_eq_true (by kernel_rfl)) (by unfold Func.isWrapper; first | (rw [if_pos (by decide +kernel)]; kernel_rfl) | (rw [if_neg (by decide +kernel)]; exact ⟨rfl, rfl⟩))
    (fun os started H enc _ => visits_lifted os started H enc)
end Go.Proofs.Ytndbkcpofkdbiaa

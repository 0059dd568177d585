/- WorldsNumbers: for every input the law returns true and every argument reads behind the call as it read before. Conditions: none. -/
import Derived.Test.YtndbkcpofkdbiaaWn10
import Derived.Test.YtndbkcpofkdbiaaWn11
set_option linter.all false
namespace Go.Proofs.Ytndbkcpofkdbiaa
open Go Av Go.ChangeShapes Go.WideShapes Go.ChangeAt Go.RowKit

theorem Try.own : ownKnob Try.prog.godebug = none := by kernel_rfl
theorem Try.laidOut : laidOutB Try.prog = true := by kernel_rfl
theorem Try.cells3 : Try.prog.cellsOf 3 = 1 := by kernel_rfl
theorem Try.cells77 : Try.prog.cellsOf 77 = 1 := by kernel_rfl

set_option maxRecDepth 100000 in
theorem numbers_lifted (os : Os) (started : os.Started) (H : Type) (enc : TypeId × Value → H) :
    ReturnsInHanded {} Try.checked os 3 .any (Rows.worldsNumbersSpec.pre6 enc Try.prog Try.f3 Rows.worldsNumbersRow.domain false) (Rows.worldsNumbersSpec.post enc Try.prog Try.f3 false true false false) := by
  refine returnsInHanded_of_change (C := Try.checked) Try.own started (by kernel_rfl) Try.func3
    (ChangeSpec.witness6 (enc := enc) (C := Try.checked) false ⟨#[], #[.slice none 0 0, .int .u8 0, .slice none 0 0], []⟩ 8 (by kernel_rfl) (by kernel_rfl) (by kernel_rfl) (by kernel_rfl)) ?_
  intro W base args ds gs before hval0 hW hcnd _
  have hval : ∀ (j : Nat) t v, Try.f3.params[j]? = some t → args[j]? = some v → Value.okWide Try.prog W .any base t v := hval0
  have hW' := hW
  obtain ⟨p, q, hA0, hV, rfl, hfz, hnd⟩ := hW
  have hA : DataW.TrodAll enc Try.prog W 0 (fun _ => true) true Try.f3.params.toList args.toList ds p := hA0
  obtain ⟨rfl, rfl⟩ := trodVars_none hV
  simp only [List.append_nil] at hW'
  have hlt : ∀ x ∈ p, x.block < W.heap.size := fun x hx => by simpa using hW'.lt x hx
  have hargs : ∀ (W' : World), Below W.heap.size W W' → DataW.TrodAll enc Try.prog W' 0 (fun b => decide (b < W.heap.size)) true Try.f3.params.toList args.toList ds p :=
    fun W' hn => trodAll_below Try.laidOut hn (of_decide_eq_true (by kernel_rfl)) hlt hA
  rw [Try.params3] at hA hval
  obtain ⟨v0, v1, v2, d0, d1, d2, p0, p1, p2, rfl, rfl, rfl, h0, h1, h2⟩ := trodAll_three hA
  obtain ⟨zs, l0, w0, r0⟩ := open_di fm1 Try.underlying22 Try.underlying3 Try.cells3 (hval 0 22 v0 rfl rfl) h0
  obtain ⟨b, rfl, rfl, rfl, wb⟩ := open_int Try.underlying5 (hval 1 5 v1 rfl rfl) h1
  obtain ⟨xs, l2, w2, r2⟩ := open_di fm1 Try.underlying23 Try.underlying77 Try.cells77 (hval 2 23 v2 rfl rfl) h2
  obtain ⟨e2, dx⟩ := dg_of w2
  have hb := wf_u8 wb
  obtain ⟨n, rfl⟩ : ∃ n : Nat, b = (n : Int) := ⟨b.toNat, by omega⟩
  rw [e2] at r2
  have hx := numbers_ok has1 wf1 zs n (xs.map Int.toNat) l0 (by omega) dx (by rw [List.length_map]; exact l2)
  rw [List.length_map] at hx
  have hR : ∀ L, RelL W (allOf W) fm1 L [.slice false 1 zs.length (di zs), .int .u8 n, .slice false 1 xs.length (dg (xs.map Int.toNat))] [v0, .int .u8 n, v2] (fun _ => 0) := fun L => by
    unfold RelL
    refine ⟨_, _, fun _ => 0, fun _ => 0, rfl, r0 L, ?_, fun _ => rfl⟩
    unfold RelL
    refine ⟨_, _, fun _ => 0, fun _ => 0, rfl, by unfold Rel; exact ⟨rfl, Zero.of_zero⟩, ?_, fun _ => rfl⟩
    unfold RelL
    refine ⟨_, _, fun _ => 0, fun _ => 0, rfl, r2 L, ?_, fun _ => rfl⟩
    unfold RelL
    exact ⟨rfl, Zero.of_zero⟩
  refine (law_calls mixed tabOK (g := 0) (f := F.f0) rfl hR hx).mono fun e W' ⟨he, hn⟩ => ?_
  subst he
  exact ⟨_, rfl, ⟨_, _, _, [], _, [], hW', trodAll_mk1 (shut_bool Try.underlying4 true), hargs _ hn, rfl, hn.frame _, fun h => by cases h⟩⟩

theorem numbers_holds : Rows.WorldsNumbersSaid :=
  OpenClaim.holds_of_wide 3 Try.f3 rfl rfl rfl rfl rfl rfl rfl ⟨rfl, rfl, rfl, rfl, rfl⟩ rfl rfl rfl rfl rfl (by kernel_rfl) Try.func3 (by kernel_rfl)
    (of_decide_eq_true (by kernel_rfl)) (by unfold Func.isWrapper; first | (rw [if_pos (by decide +kernel)]; kernel_rfl) | (rw [if_neg (by decide +kernel)]; exact ⟨rfl, rfl⟩))
    (fun os started H enc _ => numbers_lifted os started H enc)
end Go.Proofs.Ytndbkcpofkdbiaa

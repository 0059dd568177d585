/- A part of the proof: WorldsVisits: for every input the law returns true and the argument reads behind the call as it read before. Conditions: none. -/
import Derived.Test.YtndbkcpofkdbiaaWv15
import Derived.Test.YtndbkcpofkdbiaaWv16
import Derived.Test.YtndbkcpofkdbiaaWv17
import Derived.Test.YtndbkcpofkdbiaaWv18
import Derived.Test.YtndbkcpofkdbiaaWv19
import Derived.Test.YtndbkcpofkdbiaaWv20
import Derived.Test.YtndbkcpofkdbiaaWv21
import Derived.Test.YtndbkcpofkdbiaaWv22
import Derived.Test.YtndbkcpofkdbiaaWv9
set_option linter.all false
namespace Av
open Go
theorem qf2 : QF T2 where
  new := fun i hi => by
    match i, hi with
    | 0, _ => exact callW_iff.2 ⟨_, qn0⟩
    | 1, _ => exact callW_iff.2 ⟨_, qn1⟩
    | 2, _ => exact callW_iff.2 ⟨_, qn2⟩
    | 3, _ => exact callW_iff.2 ⟨_, qn3⟩
    | 4, _ => exact callW_iff.2 ⟨_, qn4⟩
    | 5, _ => exact callW_iff.2 ⟨_, qn5⟩
    | 6, _ => exact callW_iff.2 ⟨_, qn6⟩
    | 7, _ => exact callW_iff.2 ⟨_, qn7⟩
    | n + 8, h => omega
  mul := fun i hi => by
    match i, hi with
    | 0, _ => exact callW_iff.2 ⟨_, qm0⟩
    | 1, _ => exact callW_iff.2 ⟨_, qm1⟩
    | 2, _ => exact callW_iff.2 ⟨_, qm2⟩
    | 3, _ => exact callW_iff.2 ⟨_, qm3⟩
    | 4, _ => exact callW_iff.2 ⟨_, qm4⟩
    | 5, _ => exact callW_iff.2 ⟨_, qm5⟩
    | 6, _ => exact callW_iff.2 ⟨_, qm6⟩
    | 7, _ => exact callW_iff.2 ⟨_, qm7⟩
    | n + 8, h => omega
def okF (f : Frac3) : Bool := !f.1 && f.2.1.all (fun x => decide (x < 4294967296)) && f.2.2.all (fun x => decide (x < 4294967296)) && decide (f.2.1.length ≤ 2) && decide (f.2.2.length ≤ 2)
theorem okF_dig {f : Frac3} (h : okF f = true) : f.1 = false ∧ DigF f := by
  obtain ⟨b, n, d⟩ := f
  simp only [okF, Bool.and_eq_true, List.all_eq_true, decide_eq_true_eq, Bool.not_eq_true'] at h
  obtain ⟨⟨⟨⟨h1, h2⟩, h3⟩, h4⟩, h5⟩ := h
  exact ⟨h1, h2, h3, Nat.le_trans h4 (by decide), Nat.le_trans h5 (by decide)⟩
theorem sign_nonneg {T : Nat → Option Fun} (h : Has1 T) {f : Frac3} (hf : okF f = true) : ∃ s : Int, 0 ≤ s ∧ callW T 4 [.agg (frC f)] [] = some (.int .i64 s, []) := by
  obtain ⟨h1, h2⟩ := okF_dig hf
  refine ⟨_, ?_, sign_ok h f h2⟩
  rw [h1]
  split <;> simp
def RemOK (l : List Frac3) : Prop := ∃ f : Frac3, okF f = true ∧ callW T2 10 [.agg [gblk l]] [] = some (.agg (frO f), [])
theorem rem0 : RemOK [] := ⟨_, by decide, callW_iff.2 ⟨_, qr⟩⟩
theorem rem1 (i : Nat) (hi : i < 8) : RemOK [hf.getD i (false, [], [])] := by
  match i, hi with
  | 0, _ => exact ⟨_, by decide, callW_iff.2 ⟨_, qr0⟩⟩
  | 1, _ => exact ⟨_, by decide, callW_iff.2 ⟨_, qr1⟩⟩
  | 2, _ => exact ⟨_, by decide, callW_iff.2 ⟨_, qr2⟩⟩
  | 3, _ => exact ⟨_, by decide, callW_iff.2 ⟨_, qr3⟩⟩
  | 4, _ => exact ⟨_, by decide, callW_iff.2 ⟨_, qr4⟩⟩
  | 5, _ => exact ⟨_, by decide, callW_iff.2 ⟨_, qr5⟩⟩
  | 6, _ => exact ⟨_, by decide, callW_iff.2 ⟨_, qr6⟩⟩
  | 7, _ => exact ⟨_, by decide, callW_iff.2 ⟨_, qr7⟩⟩
  | n + 8, h => omega
theorem rem2x0 (j : Nat) (hj : j < 8) : RemOK [(false, [1], [4]), hf.getD j (false, [], [])] := by
  match j, hj with
  | 0, _ => exact ⟨_, by decide, callW_iff.2 ⟨_, qr00⟩⟩
  | 1, _ => exact ⟨_, by decide, callW_iff.2 ⟨_, qr01⟩⟩
  | 2, _ => exact ⟨_, by decide, callW_iff.2 ⟨_, qr02⟩⟩
  | 3, _ => exact ⟨_, by decide, callW_iff.2 ⟨_, qr03⟩⟩
  | 4, _ => exact ⟨_, by decide, callW_iff.2 ⟨_, qr04⟩⟩
  | 5, _ => exact ⟨_, by decide, callW_iff.2 ⟨_, qr05⟩⟩
  | 6, _ => exact ⟨_, by decide, callW_iff.2 ⟨_, qr06⟩⟩
  | 7, _ => exact ⟨_, by decide, callW_iff.2 ⟨_, qr07⟩⟩
  | n + 8, h => omega
theorem rem2x1 (j : Nat) (hj : j < 8) : RemOK [(false, [1], [6]), hf.getD j (false, [], [])] := by
  match j, hj with
  | 0, _ => exact ⟨_, by decide, callW_iff.2 ⟨_, qr10⟩⟩
  | 1, _ => exact ⟨_, by decide, callW_iff.2 ⟨_, qr11⟩⟩
  | 2, _ => exact ⟨_, by decide, callW_iff.2 ⟨_, qr12⟩⟩
  | 3, _ => exact ⟨_, by decide, callW_iff.2 ⟨_, qr13⟩⟩
  | 4, _ => exact ⟨_, by decide, callW_iff.2 ⟨_, qr14⟩⟩
  | 5, _ => exact ⟨_, by decide, callW_iff.2 ⟨_, qr15⟩⟩
  | 6, _ => exact ⟨_, by decide, callW_iff.2 ⟨_, qr16⟩⟩
  | 7, _ => exact ⟨_, by decide, callW_iff.2 ⟨_, qr17⟩⟩
  | n + 8, h => omega
theorem rem2x2 (j : Nat) (hj : j < 8) : RemOK [(false, [1], [3]), hf.getD j (false, [], [])] := by
  match j, hj with
  | 0, _ => exact ⟨_, by decide, callW_iff.2 ⟨_, qr20⟩⟩
  | 1, _ => exact ⟨_, by decide, callW_iff.2 ⟨_, qr21⟩⟩
  | 2, _ => exact ⟨_, by decide, callW_iff.2 ⟨_, qr22⟩⟩
  | 3, _ => exact ⟨_, by decide, callW_iff.2 ⟨_, qr23⟩⟩
  | 4, _ => exact ⟨_, by decide, callW_iff.2 ⟨_, qr24⟩⟩
  | 5, _ => exact ⟨_, by decide, callW_iff.2 ⟨_, qr25⟩⟩
  | 6, _ => exact ⟨_, by decide, callW_iff.2 ⟨_, qr26⟩⟩
  | 7, _ => exact ⟨_, by decide, callW_iff.2 ⟨_, qr27⟩⟩
  | n + 8, h => omega
theorem rem2x3 (j : Nat) (hj : j < 8) : RemOK [(false, [1], [8]), hf.getD j (false, [], [])] := by
  match j, hj with
  | 0, _ => exact ⟨_, by decide, callW_iff.2 ⟨_, qr30⟩⟩
  | 1, _ => exact ⟨_, by decide, callW_iff.2 ⟨_, qr31⟩⟩
  | 2, _ => exact ⟨_, by decide, callW_iff.2 ⟨_, qr32⟩⟩
  | 3, _ => exact ⟨_, by decide, callW_iff.2 ⟨_, qr33⟩⟩
  | 4, _ => exact ⟨_, by decide, callW_iff.2 ⟨_, qr34⟩⟩
  | 5, _ => exact ⟨_, by decide, callW_iff.2 ⟨_, qr35⟩⟩
  | 6, _ => exact ⟨_, by decide, callW_iff.2 ⟨_, qr36⟩⟩
  | 7, _ => exact ⟨_, by decide, callW_iff.2 ⟨_, qr37⟩⟩
  | n + 8, h => omega
theorem rem2x4 (j : Nat) (hj : j < 8) : RemOK [(false, [1], [2]), hf.getD j (false, [], [])] := by
  match j, hj with
  | 0, _ => exact ⟨_, by decide, callW_iff.2 ⟨_, qr40⟩⟩
  | 1, _ => exact ⟨_, by decide, callW_iff.2 ⟨_, qr41⟩⟩
  | 2, _ => exact ⟨_, by decide, callW_iff.2 ⟨_, qr42⟩⟩
  | 3, _ => exact ⟨_, by decide, callW_iff.2 ⟨_, qr43⟩⟩
  | 4, _ => exact ⟨_, by decide, callW_iff.2 ⟨_, qr44⟩⟩
  | 5, _ => exact ⟨_, by decide, callW_iff.2 ⟨_, qr45⟩⟩
  | 6, _ => exact ⟨_, by decide, callW_iff.2 ⟨_, qr46⟩⟩
  | 7, _ => exact ⟨_, by decide, callW_iff.2 ⟨_, qr47⟩⟩
  | n + 8, h => omega
theorem rem2x5 (j : Nat) (hj : j < 8) : RemOK [(false, [], [1]), hf.getD j (false, [], [])] := by
  match j, hj with
  | 0, _ => exact ⟨_, by decide, callW_iff.2 ⟨_, qr50⟩⟩
  | 1, _ => exact ⟨_, by decide, callW_iff.2 ⟨_, qr51⟩⟩
  | 2, _ => exact ⟨_, by decide, callW_iff.2 ⟨_, qr52⟩⟩
  | 3, _ => exact ⟨_, by decide, callW_iff.2 ⟨_, qr53⟩⟩
  | 4, _ => exact ⟨_, by decide, callW_iff.2 ⟨_, qr54⟩⟩
  | 5, _ => exact ⟨_, by decide, callW_iff.2 ⟨_, qr55⟩⟩
  | 6, _ => exact ⟨_, by decide, callW_iff.2 ⟨_, qr56⟩⟩
  | 7, _ => exact ⟨_, by decide, callW_iff.2 ⟨_, qr57⟩⟩
  | n + 8, h => omega
theorem rem2x6 (j : Nat) (hj : j < 8) : RemOK [(false, [3], [10]), hf.getD j (false, [], [])] := by
  match j, hj with
  | 0, _ => exact ⟨_, by decide, callW_iff.2 ⟨_, qr60⟩⟩
  | 1, _ => exact ⟨_, by decide, callW_iff.2 ⟨_, qr61⟩⟩
  | 2, _ => exact ⟨_, by decide, callW_iff.2 ⟨_, qr62⟩⟩
  | 3, _ => exact ⟨_, by decide, callW_iff.2 ⟨_, qr63⟩⟩
  | 4, _ => exact ⟨_, by decide, callW_iff.2 ⟨_, qr64⟩⟩
  | 5, _ => exact ⟨_, by decide, callW_iff.2 ⟨_, qr65⟩⟩
  | 6, _ => exact ⟨_, by decide, callW_iff.2 ⟨_, qr66⟩⟩
  | 7, _ => exact ⟨_, by decide, callW_iff.2 ⟨_, qr67⟩⟩
  | n + 8, h => omega
theorem rem2x7 (j : Nat) (hj : j < 8) : RemOK [(false, [1], [14]), hf.getD j (false, [], [])] := by
  match j, hj with
  | 0, _ => exact ⟨_, by decide, callW_iff.2 ⟨_, qr70⟩⟩
  | 1, _ => exact ⟨_, by decide, callW_iff.2 ⟨_, qr71⟩⟩
  | 2, _ => exact ⟨_, by decide, callW_iff.2 ⟨_, qr72⟩⟩
  | 3, _ => exact ⟨_, by decide, callW_iff.2 ⟨_, qr73⟩⟩
  | 4, _ => exact ⟨_, by decide, callW_iff.2 ⟨_, qr74⟩⟩
  | 5, _ => exact ⟨_, by decide, callW_iff.2 ⟨_, qr75⟩⟩
  | 6, _ => exact ⟨_, by decide, callW_iff.2 ⟨_, qr76⟩⟩
  | 7, _ => exact ⟨_, by decide, callW_iff.2 ⟨_, qr77⟩⟩
  | n + 8, h => omega
theorem rem2 (i j : Nat) (hi : i < 8) (hj : j < 8) : RemOK [hf.getD i (false, [], []), hf.getD j (false, [], [])] := by
  match i, hi with
  | 0, _ => exact rem2x0 j hj
  | 1, _ => exact rem2x1 j hj
  | 2, _ => exact rem2x2 j hj
  | 3, _ => exact rem2x3 j hj
  | 4, _ => exact rem2x4 j hj
  | 5, _ => exact rem2x5 j hj
  | 6, _ => exact rem2x6 j hj
  | 7, _ => exact rem2x7 j hj
  | n + 8, h => omega
theorem okF_hf (i : Nat) (hi : i < 8) : okF (hf.getD i (false, [], [])) = true :=
  match i, hi with
  | 0, _ => by decide
  | 1, _ => by decide
  | 2, _ => by decide
  | 3, _ => by decide
  | 4, _ => by decide
  | 5, _ => by decide
  | 6, _ => by decide
  | 7, _ => by decide
  | n + 8, h => by omega
theorem goodB_spB (n m : Nat) (hm : m < 3) : GoodB T2 (spB n m) where
  len := by rw [spB_length]; omega
  sign := fun f hf => by
    obtain ⟨k, _, rfl⟩ := List.mem_map.1 hf
    exact sign_nonneg has2.1 (okF_hf _ (Nat.mod_lt _ (by omega)))
  rem := by
    have h : RemOK (spB n m) := by
      match m, hm with
      | 0, _ => exact rem0
      | 1, _ => exact rem1 _ (Nat.mod_lt _ (by omega))
      | 2, _ => exact rem2 _ _ (Nat.mod_lt _ (by omega)) (Nat.mod_lt _ (by omega))
      | m + 3, h => omega
    obtain ⟨f, h1, h2⟩ := h
    exact ⟨f, h2, sign_nonneg has2.1 h1⟩
theorem good_spS (l : List Int) (c : Nat) : Good T2 (spS l c) := by
  intro b hb
  obtain ⟨i, _, rfl⟩ := List.mem_map.1 hb
  exact goodB_spB _ _ (Nat.mod_lt _ (by omega))
theorem spS_two (l : List Int) (c : Nat) : ∀ k ∈ lens (spS l c), k ≤ 2 := by
  intro k hk
  obtain ⟨b, hb, rfl⟩ := List.mem_map.1 hk
  obtain ⟨i, _, rfl⟩ := List.mem_map.1 hb
  rw [spB_length]
  have := Nat.mod_lt (atN l (1 + i)) (show 0 < 3 by omega)
  omega
end Av

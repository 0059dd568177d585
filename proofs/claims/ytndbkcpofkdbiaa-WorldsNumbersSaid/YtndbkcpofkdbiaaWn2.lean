/- A part of the proof: WorldsNumbers: for every input the law returns true and every argument reads behind the call as it read before. Conditions: none. -/
import Derived.Test.YtndbkcpofkdbiaaWn1
set_option linter.all false
/-
Naturals in base 2^32, least digit first.
-/
namespace Av

abbrev B32 : Nat := 4294967296
def val : List Nat → Nat
  | [] => 0
  | x :: a => x + 4294967296 * val a
def Dig (a : List Nat) : Prop := ∀ x ∈ a, x < 4294967296
def digs (n : Nat) : List Nat := if h : n = 0 then [] else (n % 4294967296) :: digs (n / 4294967296)
termination_by n
decreasing_by omega

theorem digs_zero : digs 0 = [] := by rw [digs]; simp
theorem digs_pos {n : Nat} (h : n ≠ 0) : digs n = (n % 4294967296) :: digs (n / 4294967296) := by rw [digs]; simp [h]

theorem val_digs (n : Nat) : val (digs n) = n := by
  induction n using Nat.strongRecOn with
  | _ n ih =>
    by_cases h : n = 0
    · subst h; rw [digs_zero]; rfl
    · rw [digs_pos h, val, ih _ (by omega)]; omega
theorem dig_digs (n : Nat) : Dig (digs n) := by
  induction n using Nat.strongRecOn with
  | _ n ih =>
    by_cases h : n = 0
    · subst h; rw [digs_zero]; intro x hx; simp at hx
    · rw [digs_pos h]
      intro x hx
      rcases List.mem_cons.1 hx with e | e
      · subst e; omega
      · exact ih _ (by omega) x e

theorem Dig.cons {x : Nat} {a : List Nat} (h : Dig (x :: a)) : x < 4294967296 ∧ Dig a := ⟨h x (by simp), fun y hy => h y (by simp [hy])⟩
theorem Dig.take {a : List Nat} (h : Dig a) (n : Nat) : Dig (a.take n) := fun x hx => h x (List.mem_of_mem_take hx)
theorem Dig.drop {a : List Nat} (h : Dig a) (n : Nat) : Dig (a.drop n) := fun x hx => h x (List.mem_of_mem_drop hx)
theorem Dig.get {a : List Nat} (h : Dig a) (i : Nat) : a.getD i 0 < 4294967296 := by
  simp only [List.getD]
  cases hi : a[i]? with
  | none => simp
  | some x => simpa using h x (List.mem_of_getElem? hi)
theorem Dig.set {a : List Nat} (h : Dig a) (i x : Nat) (hx : x < 4294967296) : Dig (a.set i x) := fun y hy => by
  rcases List.mem_or_eq_of_mem_set hy with h1 | h1
  · exact h y h1
  · subst h1; exact hx

theorem val_append : ∀ (a b : List Nat), val (a ++ b) = val a + 4294967296 ^ a.length * val b
  | [], b => by simp [val]
  | x :: a, b => by
    simp only [List.cons_append, val, List.length_cons]
    rw [val_append a b, Nat.pow_succ, Nat.mul_add, ← Nat.mul_assoc, Nat.mul_comm 4294967296 (4294967296 ^ a.length)]
    omega
theorem val_lt : ∀ {a : List Nat}, Dig a → val a < 4294967296 ^ a.length
  | [], _ => by simp [val]
  | x :: a, h => by
    have ⟨h1, h2⟩ := h.cons
    have ih := val_lt h2
    simp only [val, List.length_cons, Nat.pow_succ]
    omega
theorem val_split (a : List Nat) (i : Nat) (h : i ≤ a.length) : val a = val (a.take i) + 4294967296 ^ i * val (a.drop i) := by
  have e := val_append (a.take i) (a.drop i)
  rw [List.take_append_drop, List.length_take, Nat.min_eq_left h] at e
  exact e
theorem getD_set_nat {l : List Nat} {i j x : Nat} (h : i ≠ j) : (l.set i x).getD j 0 = l.getD j 0 := by
  simp [List.getD, h]
theorem getD_set_self {l : List Nat} {i x : Nat} (h : i < l.length) : (l.set i x).getD i 0 = x := by
  simp [List.getD, h]
theorem drop_set_ne {l : List Nat} {i j x : Nat} (h : i < j) : (l.set i x).drop j = l.drop j := by
  rw [List.drop_set_of_lt h]
theorem drop_get (a : List Nat) (i : Nat) (h : i < a.length) : a.drop i = a.getD i 0 :: a.drop (i + 1) := by
  rw [List.drop_eq_getElem_cons h]; simp [List.getD, h]
theorem take_get (a : List Nat) (i : Nat) (h : i < a.length) : a.take (i + 1) = a.take i ++ [a.getD i 0] := by
  rw [List.take_add_one]; simp [List.getD, h]
theorem val_take (a : List Nat) (i : Nat) (h : i < a.length) : val (a.take (i + 1)) = val (a.take i) + 4294967296 ^ i * a.getD i 0 := by
  rw [take_get a i h, val_append, List.length_take, Nat.min_eq_left (by omega)]; simp [val]
theorem val_take' (a : List Nat) (i : Nat) : val (a.take (i + 1)) = val (a.take i) + 4294967296 ^ i * a.getD i 0 := by
  by_cases h : i < a.length
  · exact val_take a i h
  · rw [List.take_of_length_le (by omega), List.take_of_length_le (by omega)]
    simp [List.getD, List.getElem?_eq_none (Nat.le_of_not_lt h)]
theorem take_set (a : List Nat) (i d : Nat) (h : i < a.length) : (a.set i d).take (i + 1) = a.take i ++ [d] := by
  rw [take_get _ i (by simpa using h)]
  congr 1
  · rw [List.take_set_of_le (Nat.le_refl _)]
  · simp [List.getD, h]
theorem val_set (a : List Nat) (i d : Nat) (h : i < a.length) : val ((a.set i d).take (i + 1)) = val (a.take i) + 4294967296 ^ i * d := by
  rw [take_set a i d h, val_append, List.length_take, Nat.min_eq_left (by omega)]; simp [val]
theorem carry_eq (i z : Nat) : 4294967296 ^ i * (z % 4294967296) + 4294967296 ^ (i + 1) * (z / 4294967296) = 4294967296 ^ i * z := by
  rw [Nat.pow_succ, Nat.mul_assoc, ← Nat.mul_add, Nat.mod_add_div]
theorem val_zeros (n : Nat) : val (List.replicate n 0) = 0 := by
  induction n with
  | zero => rfl
  | succ n ih => simp [List.replicate_succ, val, ih]

def trimN (a : List Nat) : Nat → Nat
  | 0 => 0
  | n + 1 => if a.getD n 0 = 0 then trimN a n else n + 1
/-- Without leading zeros. -/
def trimL (a : List Nat) : List Nat := a.take (trimN a a.length)
theorem trimN_le (a : List Nat) : ∀ n, trimN a n ≤ n
  | 0 => Nat.le_refl _
  | n + 1 => by
    unfold trimN
    split
    · exact Nat.le_succ_of_le (trimN_le a n)
    · exact Nat.le_refl _
theorem trimL_length (a : List Nat) : (trimL a).length = trimN a a.length := by
  have := trimN_le a a.length
  simp [trimL]; omega

/-- Lists with the same value, both without leading zeros, are the same. -/
theorem digs_unique : ∀ {a : List Nat}, Dig a → (∀ h : a ≠ [], a.getLast h ≠ 0) → a = digs (val a)
  | [], _, _ => by rw [val, digs_zero]
  | x :: a, h, hl => by
    have ⟨h1, h2⟩ := h.cons
    have hne : val (x :: a) ≠ 0 := by
      intro h0
      simp only [val] at h0
      by_cases ha : a = []
      · subst ha
        have := hl (by simp)
        simp [val] at this h0
        omega
      · have ih := digs_unique h2 (fun h => by have := hl (by simp); rw [List.getLast_cons h] at this; exact this)
        have : val a = 0 := by omega
        rw [this, digs_zero] at ih
        exact ha ih
    rw [digs_pos hne]
    have e1 : val (x :: a) % 4294967296 = x := by simp only [val]; omega
    have e2 : val (x :: a) / 4294967296 = val a := by simp only [val]; omega
    rw [e1, e2]
    congr 1
    by_cases ha : a = []
    · subst ha; rw [val, digs_zero]
    · exact digs_unique h2 fun h => by have := hl (by simp); rw [List.getLast_cons h] at this; exact this

theorem val_trim_aux (a : List Nat) : ∀ n, n ≤ a.length → val (a.take (trimN a n)) = val (a.take n)
  | 0, _ => rfl
  | n + 1, h => by
    unfold trimN
    split
    · rename_i h0
      rw [val_trim_aux a n (by omega), val_take a n (by omega), h0]; simp
    · rfl
theorem trimN_last (a : List Nat) : ∀ n, trimN a n = 0 ∨ (∃ m, trimN a n = m + 1 ∧ a.getD m 0 ≠ 0)
  | 0 => .inl rfl
  | n + 1 => by
    unfold trimN
    split
    · exact trimN_last a n
    · rename_i h; exact .inr ⟨n, rfl, h⟩
theorem trimL_eq {a : List Nat} (h : Dig a) : trimL a = digs (val a) := by
  have e : val (trimL a) = val a := by
    unfold trimL
    rw [val_trim_aux a a.length (Nat.le_refl _), List.take_length]
  rw [← e]
  refine digs_unique (h.take _) fun hne => ?_
  rcases trimN_last a a.length with h0 | ⟨m, hm, h1⟩
  · exfalso; apply hne; unfold trimL; rw [h0]; rfl
  · have hle := trimN_le a a.length
    have hml : m < a.length := by omega
    have e2 : trimL a = a.take m ++ [a.getD m 0] := by unfold trimL; rw [hm, take_get a m hml]
    have e3 : (trimL a).getLast hne = a.getD m 0 := by simp [e2]
    rw [e3]; exact h1

theorem digs_length_le {n k : Nat} (h : n < 4294967296 ^ k) : (digs n).length ≤ k := by
  induction k generalizing n with
  | zero => simp at h; subst h; rw [digs_zero]; simp
  | succ k ih =>
    by_cases h0 : n = 0
    · subst h0; rw [digs_zero]; simp
    · rw [digs_pos h0]
      simp only [List.length_cons]
      have := ih (n := n / 4294967296) (by rw [Nat.pow_succ] at h; exact Nat.div_lt_of_lt_mul (by rw [Nat.mul_comm]; exact h))
      omega
theorem digs_ge {n : Nat} (h : n ≠ 0) : 4294967296 ^ ((digs n).length - 1) ≤ n := by
  induction n using Nat.strongRecOn with
  | _ n ih =>
    rw [digs_pos h]
    simp only [List.length_cons, Nat.add_sub_cancel]
    by_cases h0 : n / 4294967296 = 0
    · rw [h0, digs_zero]; simp; omega
    · have := ih (n / 4294967296) (by omega) h0
      have hl : (digs (n / 4294967296)).length ≠ 0 := by rw [digs_pos h0]; simp
      obtain ⟨k, hk⟩ := Nat.exists_eq_succ_of_ne_zero hl
      rw [hk] at this ⊢
      simp only [Nat.succ_eq_add_one, Nat.add_sub_cancel] at this
      rw [Nat.succ_eq_add_one, Nat.pow_succ]
      have := Nat.mul_le_mul_right 4294967296 this
      omega
theorem digs_lt_of_length {x y : Nat} (h : (digs x).length < (digs y).length) : x < y := by
  have hy : y ≠ 0 := by intro e; subst e; rw [digs_zero] at h; simp at h
  have h1 := val_lt (dig_digs x)
  rw [val_digs] at h1
  have h2 := digs_ge hy
  have : 4294967296 ^ (digs x).length ≤ 4294967296 ^ ((digs y).length - 1) := Nat.pow_le_pow_right (by omega) (by omega)
  omega

/-- n digits. -/
def digsN : Nat → Nat → List Nat
  | 0, _ => []
  | n + 1, v => (v % 4294967296) :: digsN n (v / 4294967296)
theorem digsN_length : ∀ n v, (digsN n v).length = n
  | 0, _ => rfl
  | n + 1, v => by simp [digsN, digsN_length n]
theorem dig_digsN : ∀ n v, Dig (digsN n v)
  | 0, _ => fun x hx => by simp [digsN] at hx
  | n + 1, v => fun x hx => by
    simp only [digsN, List.mem_cons] at hx
    rcases hx with e | e
    · subst e; omega
    · exact dig_digsN n _ x e
theorem digsN_unique : ∀ {a : List Nat}, Dig a → a = digsN a.length (val a)
  | [], _ => rfl
  | x :: a, h => by
    have ⟨h1, h2⟩ := h.cons
    simp only [List.length_cons, digsN, val]
    have e1 : (x + 4294967296 * val a) % 4294967296 = x := by omega
    have e2 : (x + 4294967296 * val a) / 4294967296 = val a := by omega
    rw [e1, e2, ← digsN_unique h2]
theorem val_digsN : ∀ n v, v < 4294967296 ^ n → val (digsN n v) = v
  | 0, v, h => by simp at h; subst h; rfl
  | n + 1, v, h => by
    simp only [digsN, val]
    rw [val_digsN n _ (by rw [Nat.pow_succ] at h; exact Nat.div_lt_of_lt_mul (by rw [Nat.mul_comm]; exact h))]
    omega

def cmpI (x y : Nat) : Int := if x < y then -1 else if y < x then 1 else 0

/-- The first digit that differs decides. -/
theorem cmp_at {a b : List Nat} (ha : Dig a) (hl : a.length = b.length) (i : Nat) (hi : i < a.length) (he : a.drop (i + 1) = b.drop (i + 1)) (h : a.getD i 0 < b.getD i 0) : val a < val b := by
  rw [val_split a (i + 1) (by omega), val_split b (i + 1) (by omega), he, val_take a i hi, val_take b i (by omega)]
  have h1 := val_lt (ha.take i)
  rw [List.length_take, Nat.min_eq_left (by omega)] at h1
  have h2 : 4294967296 ^ i * (a.getD i 0 + 1) ≤ 4294967296 ^ i * b.getD i 0 := Nat.mul_le_mul_left _ h
  rw [Nat.mul_add, Nat.mul_one] at h2
  omega
end Av
namespace Av
open Go
set_option linter.unusedSimpArgs false

def dg (a : List Nat) : List D := a.map fun (x : Nat) => .int .u32 x
/-- A number that is shared, and one of the frame's own. -/
def natS (a : List Nat) : D := .slice false 1 a.length (dg a)
def natO (a : List Nat) : D := .slice true 1 a.length (dg a)

theorem dg_length (a : List Nat) : (dg a).length = a.length := by simp [dg]
theorem shareL_dg : ∀ a : List Nat, shareL (dg a) = dg a
  | [] => by simp [dg, shareL]
  | x :: a => by
    have := shareL_dg a
    simp only [dg] at this
    simp only [dg, List.map_cons, shareL, shareD, this]
theorem dg_get (a : List Nat) (i : Nat) (h : i < a.length) : (dg a)[i]? = some (.int .u32 (a.getD i 0 : Nat)) := by simp [dg, h]
theorem load_dg (rows : Rows) (a : List Nat) (i : Nat) (h : i < a.length) : loadV rows false 1 (.faddr (dg a) i) = some (.int .u32 (a.getD i 0 : Nat)) := load_faddr _ _ _ _ (dg_get a i h)
theorem cut_dg (a : List Nat) (n : Nat) : cut (dg a) 0 n = dg (a.take n) := by simp [cut, dg, List.map_take]
theorem take_dg (a : List Nat) (n : Nat) : (dg a).take n = dg (a.take n) := by simp [dg, List.map_take]
theorem borrow_int (r : Nat) (p : List Nat) (v i : Nat) (k : IntKind) (n : Int) : borrow r p v i (.int k n) = .int k n := rfl
/-- A digit of a row. -/
theorem load_row (rows : Rows) (r v i : Nat) (a : List Nat) (pub : Bool) (fz ver : Nat) (hr : rows[r]? = some (some ⟨dg a, pub, fz, ver⟩)) (h : i < a.length) : loadV rows false 1 (.addr r [] v i) = some (.int .u32 (a.getD i 0 : Nat)) := by
  have h1 : theRow rows r = some ⟨dg a, pub, fz, ver⟩ := by unfold theRow; rw [hr]
  have h2 : i + 1 ≤ (dg a).length := by rw [dg_length]; omega
  simp [loadV, cellsAt, h1, h2, dg_get a i h, borrow_int]

section
variable {T : Nat → Option Fun}

theorem trim_shared' (h : Has1 T) (a : List Nat) (hl : a.length < 2 ^ 62) : callW T 7 [.slice false 1 a.length (dg a)] [] = some (.slice false 1 (trimL a).length (dg (trimL a)), []) := by
  refine callW_ev (h 7 (.code F.f7) rfl) rfl ?_
  have hlen := trimL_length a
  simp only [F.f7, adoptVs, adoptV, List.cons_append, List.nil_append]
  simp -implicitDefEqProofs (disch := first | omega | (apply calm_by; decide)) only [List.cons_append, List.nil_append, Ev_seq, Ev_region, Ev_skip, Ev_exit, Ev_ret, Ev_block, Ev_cond, Ev_ghost, Ev_draw_calm, GoOn_cmp, GoOn_nil, GoOn_thn, GoOn_thn_e, GoOn_thn_r, GoOn_blk, GoOn_blk_e, GoOn_blk_r, onN_n, onN_e, onN_r, Round_n, Round_e, Round_r, EvC_t, EvC_f, EvW_t, EvW_f, EvR_some, EvN_some, EvO_cons, EvO_nil, wanted, exec, put, passed, opd,
    List.length_cons, List.length_nil, Nat.zero_add, Nat.reduceAdd, List.replicate_succ, List.replicate_zero, List.set_cons_zero, List.set_cons_succ, List.getD_cons_zero, List.getD_cons_succ, Option.map_some, Option.map_none, List.map_cons, List.map_nil,
    bin_add, bin_sub, bin_mul, bin_eql, bin_neq, bin_lss, bin_leq, bin_gtr, bin_geq, bin_quo_nat, bin_rem_nat, bin_or_hi, bin_shr32, bin_shl32, lenV_slice, lenV_ref, ne_eq, not_false_eq_true, beq_true, beq_false, Bool.not_true, Bool.not_false, wrap_i64, wrap_u64, dec_t, dec_f, ite_t, ite_f, ibeq_t, ibeq_f, ibne_t, ibne_f, index_slice, index_ref, slice_slice_hi, slice_ref_hi, Int.natCast_add, Int.cast_ofNat_Int, Int.add_sub_cancel, Int.toNat_natCast, Int.toNat_natCast_add_one, Int.reduceToNat, Nat.mul_one, load_dg, shareL_dg, adoptV, if_true, if_false, ite_true, ite_false, Bool.true_eq, Bool.false_eq_true, beq_self_eq_true, reduceCtorEq, reduceIte, Nat.reduceMul, Nat.reduceSub, Nat.reduceLT, Nat.reduceLeDiff, Nat.reduceEqDiff]
  refine Ev_loop (fun n s => n ≤ a.length ∧ trimN a n = trimN a a.length ∧ s = ⟨[.slice false 1 a.length (dg a), .undef, .int .i64 n], [], [], 0⟩) a.length ⟨Nat.le_refl _, rfl, ?_⟩ ?_
  · simp only [norm, keepLive, compact, List.range_zero, List.range_succ, List.nil_append, List.cons_append, List.append_nil, List.contains_cons, List.contains_nil, Bool.or_false, Bool.or_true, Bool.false_or, Bool.true_or, Nat.reduceBEq, beq_self_eq_true, idsL, ids, addId, List.filter_cons, List.filter_nil, decide_true, decide_false, List.map_cons, List.map_nil, maskD, within, withinL, mapD, mapL, subRows, getRow, List.idxOf_cons, List.idxOf_nil, cond_true, cond_false, Bool.and_true, Bool.true_and, if_true, if_false, Bool.false_eq_true, List.length_cons, List.length_nil, Nat.zero_add, Nat.reduceAdd, Nat.reduceLT, List.getD_cons_zero, List.getD_cons_succ, List.set_cons_zero, List.set_cons_succ, reduceIte, reduceCtorEq]
  · rintro n s ⟨h1, h2, rfl⟩
    cases n with
    | zero =>
      simp -implicitDefEqProofs (disch := first | omega | (apply calm_by; decide)) only [List.cons_append, List.nil_append, Ev_seq, Ev_region, Ev_skip, Ev_exit, Ev_ret, Ev_block, Ev_cond, Ev_ghost, Ev_draw_calm, GoOn_cmp, GoOn_nil, GoOn_thn, GoOn_thn_e, GoOn_thn_r, GoOn_blk, GoOn_blk_e, GoOn_blk_r, onN_n, onN_e, onN_r, Round_n, Round_e, Round_r, EvC_t, EvC_f, EvW_t, EvW_f, EvR_some, EvN_some, EvO_cons, EvO_nil, wanted, exec, put, passed, opd,
    List.length_cons, List.length_nil, Nat.zero_add, Nat.reduceAdd, List.replicate_succ, List.replicate_zero, List.set_cons_zero, List.set_cons_succ, List.getD_cons_zero, List.getD_cons_succ, Option.map_some, Option.map_none, List.map_cons, List.map_nil,
    bin_add, bin_sub, bin_mul, bin_eql, bin_neq, bin_lss, bin_leq, bin_gtr, bin_geq, bin_quo_nat, bin_rem_nat, bin_or_hi, bin_shr32, bin_shl32, lenV_slice, lenV_ref, ne_eq, not_false_eq_true, beq_true, beq_false, Bool.not_true, Bool.not_false, wrap_i64, wrap_u64, dec_t, dec_f, ite_t, ite_f, ibeq_t, ibeq_f, ibne_t, ibne_f, index_slice, index_ref, slice_slice_hi, slice_ref_hi, Int.natCast_add, Int.cast_ofNat_Int, Int.add_sub_cancel, Int.toNat_natCast, Int.toNat_natCast_add_one, Int.reduceToNat, Nat.mul_one, load_dg, shareL_dg, adoptV, if_true, if_false, ite_true, ite_false, Bool.true_eq, Bool.false_eq_true, beq_self_eq_true, reduceCtorEq, reduceIte, Nat.reduceMul, Nat.reduceSub, Nat.reduceLT, Nat.reduceLeDiff, Nat.reduceEqDiff, dg_length, take_dg, List.take_length, ends_n, ends_r, results, resVs, resV, giveV, giveVs, shareV, theRow, List.getElem?_cons_zero, List.getElem?_cons_succ, Option.map_some, List.take_zero, List.take_nil, List.take_succ_cons]
      rw [hlen, ← h2, trimL, ← h2, cut_dg]; rfl
    | succ n =>
      by_cases h0 : a.getD n 0 = 0
      · simp -implicitDefEqProofs (disch := first | omega | (apply calm_by; decide)) only [List.cons_append, List.nil_append, Ev_seq, Ev_region, Ev_skip, Ev_exit, Ev_ret, Ev_block, Ev_cond, Ev_ghost, Ev_draw_calm, GoOn_cmp, GoOn_nil, GoOn_thn, GoOn_thn_e, GoOn_thn_r, GoOn_blk, GoOn_blk_e, GoOn_blk_r, onN_n, onN_e, onN_r, Round_n, Round_e, Round_r, EvC_t, EvC_f, EvW_t, EvW_f, EvR_some, EvN_some, EvO_cons, EvO_nil, wanted, exec, put, passed, opd,
    List.length_cons, List.length_nil, Nat.zero_add, Nat.reduceAdd, List.replicate_succ, List.replicate_zero, List.set_cons_zero, List.set_cons_succ, List.getD_cons_zero, List.getD_cons_succ, Option.map_some, Option.map_none, List.map_cons, List.map_nil,
    bin_add, bin_sub, bin_mul, bin_eql, bin_neq, bin_lss, bin_leq, bin_gtr, bin_geq, bin_quo_nat, bin_rem_nat, bin_or_hi, bin_shr32, bin_shl32, lenV_slice, lenV_ref, ne_eq, not_false_eq_true, beq_true, beq_false, Bool.not_true, Bool.not_false, wrap_i64, wrap_u64, dec_t, dec_f, ite_t, ite_f, ibeq_t, ibeq_f, ibne_t, ibne_f, index_slice, index_ref, slice_slice_hi, slice_ref_hi, Int.natCast_add, Int.cast_ofNat_Int, Int.add_sub_cancel, Int.toNat_natCast, Int.toNat_natCast_add_one, Int.reduceToNat, Nat.mul_one, load_dg, shareL_dg, adoptV, if_true, if_false, ite_true, ite_false, Bool.true_eq, Bool.false_eq_true, beq_self_eq_true, reduceCtorEq, reduceIte, Nat.reduceMul, Nat.reduceSub, Nat.reduceLT, Nat.reduceLeDiff, Nat.reduceEqDiff]
        refine ⟨n, by omega, by omega, by simpa only [trimN, h0, if_true] using h2, ?_⟩
        simp only [norm, keepLive, compact, List.range_zero, List.range_succ, List.nil_append, List.cons_append, List.append_nil, List.contains_cons, List.contains_nil, Bool.or_false, Bool.or_true, Bool.false_or, Bool.true_or, Nat.reduceBEq, beq_self_eq_true, idsL, ids, addId, List.filter_cons, List.filter_nil, decide_true, decide_false, List.map_cons, List.map_nil, maskD, within, withinL, mapD, mapL, subRows, getRow, List.idxOf_cons, List.idxOf_nil, cond_true, cond_false, Bool.and_true, Bool.true_and, if_true, if_false, Bool.false_eq_true, List.length_cons, List.length_nil, Nat.zero_add, Nat.reduceAdd, Nat.reduceLT, List.getD_cons_zero, List.getD_cons_succ, List.set_cons_zero, List.set_cons_succ, reduceIte, reduceCtorEq]
      · simp -implicitDefEqProofs (disch := first | omega | (apply calm_by; decide)) only [List.cons_append, List.nil_append, Ev_seq, Ev_region, Ev_skip, Ev_exit, Ev_ret, Ev_block, Ev_cond, Ev_ghost, Ev_draw_calm, GoOn_cmp, GoOn_nil, GoOn_thn, GoOn_thn_e, GoOn_thn_r, GoOn_blk, GoOn_blk_e, GoOn_blk_r, onN_n, onN_e, onN_r, Round_n, Round_e, Round_r, EvC_t, EvC_f, EvW_t, EvW_f, EvR_some, EvN_some, EvO_cons, EvO_nil, wanted, exec, put, passed, opd,
    List.length_cons, List.length_nil, Nat.zero_add, Nat.reduceAdd, List.replicate_succ, List.replicate_zero, List.set_cons_zero, List.set_cons_succ, List.getD_cons_zero, List.getD_cons_succ, Option.map_some, Option.map_none, List.map_cons, List.map_nil,
    bin_add, bin_sub, bin_mul, bin_eql, bin_neq, bin_lss, bin_leq, bin_gtr, bin_geq, bin_quo_nat, bin_rem_nat, bin_or_hi, bin_shr32, bin_shl32, lenV_slice, lenV_ref, ne_eq, not_false_eq_true, beq_true, beq_false, Bool.not_true, Bool.not_false, wrap_i64, wrap_u64, dec_t, dec_f, ite_t, ite_f, ibeq_t, ibeq_f, ibne_t, ibne_f, index_slice, index_ref, slice_slice_hi, slice_ref_hi, Int.natCast_add, Int.cast_ofNat_Int, Int.add_sub_cancel, Int.toNat_natCast, Int.toNat_natCast_add_one, Int.reduceToNat, Nat.mul_one, load_dg, shareL_dg, adoptV, if_true, if_false, ite_true, ite_false, Bool.true_eq, Bool.false_eq_true, beq_self_eq_true, reduceCtorEq, reduceIte, Nat.reduceMul, Nat.reduceSub, Nat.reduceLT, Nat.reduceLeDiff, Nat.reduceEqDiff, dg_length, take_dg, List.take_length, ends_n, ends_r, results, resVs, resV, giveV, giveVs, shareV, theRow, List.getElem?_cons_zero, List.getElem?_cons_succ, Option.map_some, List.take_zero, List.take_nil, List.take_succ_cons]
        have h3 : trimN a (n + 1) = n + 1 := by simp only [trimN, h0, if_false]
        rw [hlen, ← h2, trimL, ← h2, h3, cut_dg]

/-- 'trim' of a row: the digits go out with the row. -/
theorem trim_row_body (a : List Nat) (b : Nat) (hl : a.length < 2 ^ 62) (hb : b = 0 ∨ b = 1) :
    Ev T F.f7.body ⟨[.ref 0 [] 0 0 a.length 1, .undef, .undef], [], [some ⟨dg a, false, 0, 0⟩], b⟩ [] (ends [.v 1] b (natO (trimL a), if b = 0 then [] else [none])) := by
  have hlen := trimL_length a
  simp only [F.f7, natO]
  simp -implicitDefEqProofs (disch := first | omega | (apply calm_by; decide)) only [List.cons_append, List.nil_append, Ev_seq, Ev_region, Ev_skip, Ev_exit, Ev_ret, Ev_block, Ev_cond, Ev_ghost, Ev_draw_calm, GoOn_cmp, GoOn_nil, GoOn_thn, GoOn_thn_e, GoOn_thn_r, GoOn_blk, GoOn_blk_e, GoOn_blk_r, onN_n, onN_e, onN_r, Round_n, Round_e, Round_r, EvC_t, EvC_f, EvW_t, EvW_f, EvR_some, EvN_some, EvO_cons, EvO_nil, wanted, exec, put, passed, opd,
    List.length_cons, List.length_nil, Nat.zero_add, Nat.reduceAdd, List.replicate_succ, List.replicate_zero, List.set_cons_zero, List.set_cons_succ, List.getD_cons_zero, List.getD_cons_succ, Option.map_some, Option.map_none, List.map_cons, List.map_nil,
    bin_add, bin_sub, bin_mul, bin_eql, bin_neq, bin_lss, bin_leq, bin_gtr, bin_geq, bin_quo_nat, bin_rem_nat, bin_or_hi, bin_shr32, bin_shl32, lenV_slice, lenV_ref, ne_eq, not_false_eq_true, beq_true, beq_false, Bool.not_true, Bool.not_false, wrap_i64, wrap_u64, dec_t, dec_f, ite_t, ite_f, ibeq_t, ibeq_f, ibne_t, ibne_f, index_slice, index_ref, slice_slice_hi, slice_ref_hi, Int.natCast_add, Int.cast_ofNat_Int, Int.add_sub_cancel, Int.toNat_natCast, Int.toNat_natCast_add_one, Int.reduceToNat, Nat.mul_one, load_dg, shareL_dg, adoptV, if_true, if_false, ite_true, ite_false, Bool.true_eq, Bool.false_eq_true, beq_self_eq_true, reduceCtorEq, reduceIte, Nat.reduceMul, Nat.reduceSub, Nat.reduceLT, Nat.reduceLeDiff, Nat.reduceEqDiff]
  refine Ev_loop (fun n s => n ≤ a.length ∧ trimN a n = trimN a a.length ∧ s = ⟨[.ref 0 [] 0 0 a.length 1, .undef, .int .i64 n], [], [some ⟨dg a, false, 0, 0⟩], b⟩) a.length ⟨Nat.le_refl _, rfl, ?_⟩ ?_
  · rcases hb with rfl | rfl <;> simp only [norm, keepLive, compact, List.range_zero, List.range_succ, List.nil_append, List.cons_append, List.append_nil, List.contains_cons, List.contains_nil, Bool.or_false, Bool.or_true, Bool.false_or, Bool.true_or, Nat.reduceBEq, beq_self_eq_true, idsL, ids, addId, List.filter_cons, List.filter_nil, decide_true, decide_false, List.map_cons, List.map_nil, maskD, within, withinL, mapD, mapL, subRows, getRow, List.idxOf_cons, List.idxOf_nil, cond_true, cond_false, Bool.and_true, Bool.true_and, if_true, if_false, Bool.false_eq_true, List.length_cons, List.length_nil, Nat.zero_add, Nat.reduceAdd, Nat.reduceLT, List.getD_cons_zero, List.getD_cons_succ, List.set_cons_zero, List.set_cons_succ, reduceIte, reduceCtorEq]
  · rintro n s ⟨h1, h2, rfl⟩
    have hld : ∀ i, i < a.length → loadV [some ⟨dg a, false, 0, 0⟩] false 1 (.addr 0 [] 0 i) = some (.int .u32 (a.getD i 0 : Nat)) := fun i hi => load_row _ 0 0 i a false 0 0 rfl hi
    cases n with
    | zero =>
      simp -implicitDefEqProofs (disch := first | omega | (apply calm_by; decide)) only [List.cons_append, List.nil_append, Ev_seq, Ev_region, Ev_skip, Ev_exit, Ev_ret, Ev_block, Ev_cond, Ev_ghost, Ev_draw_calm, GoOn_cmp, GoOn_nil, GoOn_thn, GoOn_thn_e, GoOn_thn_r, GoOn_blk, GoOn_blk_e, GoOn_blk_r, onN_n, onN_e, onN_r, Round_n, Round_e, Round_r, EvC_t, EvC_f, EvW_t, EvW_f, EvR_some, EvN_some, EvO_cons, EvO_nil, wanted, exec, put, passed, opd,
    List.length_cons, List.length_nil, Nat.zero_add, Nat.reduceAdd, List.replicate_succ, List.replicate_zero, List.set_cons_zero, List.set_cons_succ, List.getD_cons_zero, List.getD_cons_succ, Option.map_some, Option.map_none, List.map_cons, List.map_nil,
    bin_add, bin_sub, bin_mul, bin_eql, bin_neq, bin_lss, bin_leq, bin_gtr, bin_geq, bin_quo_nat, bin_rem_nat, bin_or_hi, bin_shr32, bin_shl32, lenV_slice, lenV_ref, ne_eq, not_false_eq_true, beq_true, beq_false, Bool.not_true, Bool.not_false, wrap_i64, wrap_u64, dec_t, dec_f, ite_t, ite_f, ibeq_t, ibeq_f, ibne_t, ibne_f, index_slice, index_ref, slice_slice_hi, slice_ref_hi, Int.natCast_add, Int.cast_ofNat_Int, Int.add_sub_cancel, Int.toNat_natCast, Int.toNat_natCast_add_one, Int.reduceToNat, Nat.mul_one, load_dg, shareL_dg, adoptV, if_true, if_false, ite_true, ite_false, Bool.true_eq, Bool.false_eq_true, beq_self_eq_true, reduceCtorEq, reduceIte, Nat.reduceMul, Nat.reduceSub, Nat.reduceLT, Nat.reduceLeDiff, Nat.reduceEqDiff, hld, dg_length, take_dg, List.take_length, ends_n, ends_r, results, resVs, resV, giveV, giveVs, shareV, theRow, List.getElem?_cons_zero, List.getElem?_cons_succ, Option.map_some, List.take_zero, List.take_nil, List.take_succ_cons]
      rw [hlen, ← h2, trimL, ← h2]
      rcases hb with rfl | rfl <;> rfl
    | succ n =>
      by_cases h0 : a.getD n 0 = 0
      · simp -implicitDefEqProofs (disch := first | omega | (apply calm_by; decide)) only [List.cons_append, List.nil_append, Ev_seq, Ev_region, Ev_skip, Ev_exit, Ev_ret, Ev_block, Ev_cond, Ev_ghost, Ev_draw_calm, GoOn_cmp, GoOn_nil, GoOn_thn, GoOn_thn_e, GoOn_thn_r, GoOn_blk, GoOn_blk_e, GoOn_blk_r, onN_n, onN_e, onN_r, Round_n, Round_e, Round_r, EvC_t, EvC_f, EvW_t, EvW_f, EvR_some, EvN_some, EvO_cons, EvO_nil, wanted, exec, put, passed, opd,
    List.length_cons, List.length_nil, Nat.zero_add, Nat.reduceAdd, List.replicate_succ, List.replicate_zero, List.set_cons_zero, List.set_cons_succ, List.getD_cons_zero, List.getD_cons_succ, Option.map_some, Option.map_none, List.map_cons, List.map_nil,
    bin_add, bin_sub, bin_mul, bin_eql, bin_neq, bin_lss, bin_leq, bin_gtr, bin_geq, bin_quo_nat, bin_rem_nat, bin_or_hi, bin_shr32, bin_shl32, lenV_slice, lenV_ref, ne_eq, not_false_eq_true, beq_true, beq_false, Bool.not_true, Bool.not_false, wrap_i64, wrap_u64, dec_t, dec_f, ite_t, ite_f, ibeq_t, ibeq_f, ibne_t, ibne_f, index_slice, index_ref, slice_slice_hi, slice_ref_hi, Int.natCast_add, Int.cast_ofNat_Int, Int.add_sub_cancel, Int.toNat_natCast, Int.toNat_natCast_add_one, Int.reduceToNat, Nat.mul_one, load_dg, shareL_dg, adoptV, if_true, if_false, ite_true, ite_false, Bool.true_eq, Bool.false_eq_true, beq_self_eq_true, reduceCtorEq, reduceIte, Nat.reduceMul, Nat.reduceSub, Nat.reduceLT, Nat.reduceLeDiff, Nat.reduceEqDiff, hld]
        refine ⟨n, by omega, by omega, by simpa only [trimN, h0, if_true] using h2, ?_⟩
        rcases hb with rfl | rfl <;> simp only [norm, keepLive, compact, List.range_zero, List.range_succ, List.nil_append, List.cons_append, List.append_nil, List.contains_cons, List.contains_nil, Bool.or_false, Bool.or_true, Bool.false_or, Bool.true_or, Nat.reduceBEq, beq_self_eq_true, idsL, ids, addId, List.filter_cons, List.filter_nil, decide_true, decide_false, List.map_cons, List.map_nil, maskD, within, withinL, mapD, mapL, subRows, getRow, List.idxOf_cons, List.idxOf_nil, cond_true, cond_false, Bool.and_true, Bool.true_and, if_true, if_false, Bool.false_eq_true, List.length_cons, List.length_nil, Nat.zero_add, Nat.reduceAdd, Nat.reduceLT, List.getD_cons_zero, List.getD_cons_succ, List.set_cons_zero, List.set_cons_succ, reduceIte, reduceCtorEq]
      · simp -implicitDefEqProofs (disch := first | omega | (apply calm_by; decide)) only [List.cons_append, List.nil_append, Ev_seq, Ev_region, Ev_skip, Ev_exit, Ev_ret, Ev_block, Ev_cond, Ev_ghost, Ev_draw_calm, GoOn_cmp, GoOn_nil, GoOn_thn, GoOn_thn_e, GoOn_thn_r, GoOn_blk, GoOn_blk_e, GoOn_blk_r, onN_n, onN_e, onN_r, Round_n, Round_e, Round_r, EvC_t, EvC_f, EvW_t, EvW_f, EvR_some, EvN_some, EvO_cons, EvO_nil, wanted, exec, put, passed, opd,
    List.length_cons, List.length_nil, Nat.zero_add, Nat.reduceAdd, List.replicate_succ, List.replicate_zero, List.set_cons_zero, List.set_cons_succ, List.getD_cons_zero, List.getD_cons_succ, Option.map_some, Option.map_none, List.map_cons, List.map_nil,
    bin_add, bin_sub, bin_mul, bin_eql, bin_neq, bin_lss, bin_leq, bin_gtr, bin_geq, bin_quo_nat, bin_rem_nat, bin_or_hi, bin_shr32, bin_shl32, lenV_slice, lenV_ref, ne_eq, not_false_eq_true, beq_true, beq_false, Bool.not_true, Bool.not_false, wrap_i64, wrap_u64, dec_t, dec_f, ite_t, ite_f, ibeq_t, ibeq_f, ibne_t, ibne_f, index_slice, index_ref, slice_slice_hi, slice_ref_hi, Int.natCast_add, Int.cast_ofNat_Int, Int.add_sub_cancel, Int.toNat_natCast, Int.toNat_natCast_add_one, Int.reduceToNat, Nat.mul_one, load_dg, shareL_dg, adoptV, if_true, if_false, ite_true, ite_false, Bool.true_eq, Bool.false_eq_true, beq_self_eq_true, reduceCtorEq, reduceIte, Nat.reduceMul, Nat.reduceSub, Nat.reduceLT, Nat.reduceLeDiff, Nat.reduceEqDiff, hld, dg_length, take_dg, List.take_length, ends_n, ends_r, results, resVs, resV, giveV, giveVs, shareV, theRow, List.getElem?_cons_zero, List.getElem?_cons_succ, Option.map_some, List.take_zero, List.take_nil, List.take_succ_cons]
        have h3 : trimN a (n + 1) = n + 1 := by simp only [trimN, h0, if_false]
        rw [hlen, ← h2, trimL, ← h2, h3]
        rcases hb with rfl | rfl <;> rfl

theorem trim_shared (h : Has1 T) (a : List Nat) (ha : Dig a) (hl : a.length < 2 ^ 62) : callW T 7 [.slice false 1 a.length (dg a)] [] = some (.slice false 1 (digs (val a)).length (dg (digs (val a))), []) := by
  rw [trim_shared' h a hl, trimL_eq ha]
theorem trim_row (h : Has1 T) (a : List Nat) (ha : Dig a) (hl : a.length < 2 ^ 62) : callW T 7 [.ref 0 [] 0 0 a.length 1] [some ⟨dg a, false, 0, 0⟩] = some (natO (digs (val a)), [none]) := by
  rw [← trimL_eq ha]
  exact callW_ev (h 7 (.code F.f7) rfl) rfl (trim_row_body a 1 hl (.inr rfl))
theorem trim_own (h : Has1 T) (a : List Nat) (ha : Dig a) (hl : a.length < 2 ^ 62) : callW T 7 [.slice true 1 a.length (dg a)] [] = some (natO (digs (val a)), []) := by
  rw [← trimL_eq ha]
  exact callW_ev (h 7 (.code F.f7) rfl) rfl (trim_row_body a 0 hl (.inl rfl))

theorem digs_len {n : Nat} {L : Nat} (h : n < 4294967296 ^ L) : (digs n).length ≤ L := digs_length_le h
theorem val_len {a : List Nat} (ha : Dig a) : (digs (val a)).length ≤ a.length := digs_length_le (val_lt ha)

/-- Comparison. -/
theorem cmp_ok (h : Has1 T) (a b : List Nat) (ha : Dig a) (hb : Dig b) (hla : a.length < 2 ^ 62) (hlb : b.length < 2 ^ 62) :
    callW T 13 [.slice false 1 a.length (dg a), .slice false 1 b.length (dg b)] [] = some (.int .i64 (cmpI (val a) (val b)), []) := by
  refine callW_ev (h 13 (.code F.f13) rfl) rfl ?_
  simp only [F.f13, adoptVs, adoptV, List.cons_append, List.nil_append]
  have t1 := trim_shared h a ha hla
  have t2 := trim_shared h b hb hlb
  have l1 := val_len ha
  have l2 := val_len hb
  have d1 := dig_digs (val a)
  have d2 := dig_digs (val b)
  have v1 := val_digs (val a)
  have v2 := val_digs (val b)
  have q1 := digs_lt_of_length (x := val a) (y := val b)
  have q2 := digs_lt_of_length (x := val b) (y := val a)
  generalize val a = x at *
  generalize val b = y at *
  generalize digs x = A at *
  generalize digs y = B at *
  simp -implicitDefEqProofs (disch := first | omega | (apply calm_by; decide)) only [List.cons_append, List.nil_append, Ev_seq, Ev_region, Ev_skip, Ev_exit, Ev_ret, Ev_block, Ev_cond, Ev_ghost, Ev_draw_calm, GoOn_cmp, GoOn_nil, GoOn_thn, GoOn_thn_e, GoOn_thn_r, GoOn_blk, GoOn_blk_e, GoOn_blk_r, onN_n, onN_e, onN_r, Round_n, Round_e, Round_r, EvC_t, EvC_f, EvW_t, EvW_f, EvR_some, EvN_some, EvO_cons, EvO_nil, wanted, exec, put, passed, opd,
    List.length_cons, List.length_nil, Nat.zero_add, Nat.reduceAdd, List.replicate_succ, List.replicate_zero, List.set_cons_zero, List.set_cons_succ, List.getD_cons_zero, List.getD_cons_succ, Option.map_some, Option.map_none, List.map_cons, List.map_nil,
    bin_add, bin_sub, bin_mul, bin_eql, bin_neq, bin_lss, bin_leq, bin_gtr, bin_geq, bin_quo_nat, bin_rem_nat, bin_or_hi, bin_shr32, bin_shl32, lenV_slice, lenV_ref, ne_eq, not_false_eq_true, beq_true, beq_false, Bool.not_true, Bool.not_false, wrap_i64, wrap_u64, dec_t, dec_f, ite_t, ite_f, ibeq_t, ibeq_f, ibne_t, ibne_f, index_slice, index_ref, slice_slice_hi, slice_ref_hi, Int.natCast_add, Int.cast_ofNat_Int, Int.add_sub_cancel, Int.toNat_natCast, Int.toNat_natCast_add_one, Int.reduceToNat, Nat.mul_one, load_dg, shareL_dg, adoptV, if_true, if_false, ite_true, ite_false, Bool.true_eq, Bool.false_eq_true, beq_self_eq_true, reduceCtorEq, reduceIte, Nat.reduceMul, Nat.reduceSub, Nat.reduceLT, Nat.reduceLeDiff, Nat.reduceEqDiff, callV, takeArgs, takeV, lendArgs, lendV, lendVs, List.headD_cons, List.headD_nil, List.tail_cons, List.tail_nil, List.contains_cons, List.contains_nil, m_al, m_sl, m_ol, m_ll, m_la, m_ls, m_lo, Bool.or_false, Bool.or_true, Bool.false_or, Bool.true_or, idsL, ids, madeV, shareV, shareVs, adoptV, adoptVs, ownOnly, ownOnlyL, Bool.true_and, Bool.and_true, Bool.and_false, Bool.false_and, List.isEmpty_nil, List.isEmpty_cons, giveV, giveVs, Bool.not_false, Bool.not_true, reduceCtorEq, Bool.false_eq_true, if_false, if_true, t1, t2]
  by_cases c1 : A.length < B.length
  · have e : cmpI x y = -1 := by simp [cmpI, q1 c1]
    simp -implicitDefEqProofs (disch := first | omega | (apply calm_by; decide)) only [List.cons_append, List.nil_append, Ev_seq, Ev_region, Ev_skip, Ev_exit, Ev_ret, Ev_block, Ev_cond, Ev_ghost, Ev_draw_calm, GoOn_cmp, GoOn_nil, GoOn_thn, GoOn_thn_e, GoOn_thn_r, GoOn_blk, GoOn_blk_e, GoOn_blk_r, onN_n, onN_e, onN_r, Round_n, Round_e, Round_r, EvC_t, EvC_f, EvW_t, EvW_f, EvR_some, EvN_some, EvO_cons, EvO_nil, wanted, exec, put, passed, opd,
    List.length_cons, List.length_nil, Nat.zero_add, Nat.reduceAdd, List.replicate_succ, List.replicate_zero, List.set_cons_zero, List.set_cons_succ, List.getD_cons_zero, List.getD_cons_succ, Option.map_some, Option.map_none, List.map_cons, List.map_nil,
    bin_add, bin_sub, bin_mul, bin_eql, bin_neq, bin_lss, bin_leq, bin_gtr, bin_geq, bin_quo_nat, bin_rem_nat, bin_or_hi, bin_shr32, bin_shl32, lenV_slice, lenV_ref, ne_eq, not_false_eq_true, beq_true, beq_false, Bool.not_true, Bool.not_false, wrap_i64, wrap_u64, dec_t, dec_f, ite_t, ite_f, ibeq_t, ibeq_f, ibne_t, ibne_f, index_slice, index_ref, slice_slice_hi, slice_ref_hi, Int.natCast_add, Int.cast_ofNat_Int, Int.add_sub_cancel, Int.toNat_natCast, Int.toNat_natCast_add_one, Int.reduceToNat, Nat.mul_one, load_dg, shareL_dg, adoptV, if_true, if_false, ite_true, ite_false, Bool.true_eq, Bool.false_eq_true, beq_self_eq_true, reduceCtorEq, reduceIte, Nat.reduceMul, Nat.reduceSub, Nat.reduceLT, Nat.reduceLeDiff, Nat.reduceEqDiff, dg_length, take_dg, List.take_length, ends_n, ends_r, results, resVs, resV, giveV, giveVs, shareV, theRow, List.getElem?_cons_zero, List.getElem?_cons_succ, Option.map_some, List.take_zero, List.take_nil, List.take_succ_cons, e]
  by_cases c2 : B.length < A.length
  · have q := q2 c2
    have e : cmpI x y = 1 := by unfold cmpI; rw [if_neg (by omega), if_pos q]
    simp -implicitDefEqProofs (disch := first | omega | (apply calm_by; decide)) only [List.cons_append, List.nil_append, Ev_seq, Ev_region, Ev_skip, Ev_exit, Ev_ret, Ev_block, Ev_cond, Ev_ghost, Ev_draw_calm, GoOn_cmp, GoOn_nil, GoOn_thn, GoOn_thn_e, GoOn_thn_r, GoOn_blk, GoOn_blk_e, GoOn_blk_r, onN_n, onN_e, onN_r, Round_n, Round_e, Round_r, EvC_t, EvC_f, EvW_t, EvW_f, EvR_some, EvN_some, EvO_cons, EvO_nil, wanted, exec, put, passed, opd,
    List.length_cons, List.length_nil, Nat.zero_add, Nat.reduceAdd, List.replicate_succ, List.replicate_zero, List.set_cons_zero, List.set_cons_succ, List.getD_cons_zero, List.getD_cons_succ, Option.map_some, Option.map_none, List.map_cons, List.map_nil,
    bin_add, bin_sub, bin_mul, bin_eql, bin_neq, bin_lss, bin_leq, bin_gtr, bin_geq, bin_quo_nat, bin_rem_nat, bin_or_hi, bin_shr32, bin_shl32, lenV_slice, lenV_ref, ne_eq, not_false_eq_true, beq_true, beq_false, Bool.not_true, Bool.not_false, wrap_i64, wrap_u64, dec_t, dec_f, ite_t, ite_f, ibeq_t, ibeq_f, ibne_t, ibne_f, index_slice, index_ref, slice_slice_hi, slice_ref_hi, Int.natCast_add, Int.cast_ofNat_Int, Int.add_sub_cancel, Int.toNat_natCast, Int.toNat_natCast_add_one, Int.reduceToNat, Nat.mul_one, load_dg, shareL_dg, adoptV, if_true, if_false, ite_true, ite_false, Bool.true_eq, Bool.false_eq_true, beq_self_eq_true, reduceCtorEq, reduceIte, Nat.reduceMul, Nat.reduceSub, Nat.reduceLT, Nat.reduceLeDiff, Nat.reduceEqDiff, dg_length, take_dg, List.take_length, ends_n, ends_r, results, resVs, resV, giveV, giveVs, shareV, theRow, List.getElem?_cons_zero, List.getElem?_cons_succ, Option.map_some, List.take_zero, List.take_nil, List.take_succ_cons, e]
  have hlen : A.length = B.length := by omega
  simp -implicitDefEqProofs (disch := first | omega | (apply calm_by; decide)) only [List.cons_append, List.nil_append, Ev_seq, Ev_region, Ev_skip, Ev_exit, Ev_ret, Ev_block, Ev_cond, Ev_ghost, Ev_draw_calm, GoOn_cmp, GoOn_nil, GoOn_thn, GoOn_thn_e, GoOn_thn_r, GoOn_blk, GoOn_blk_e, GoOn_blk_r, onN_n, onN_e, onN_r, Round_n, Round_e, Round_r, EvC_t, EvC_f, EvW_t, EvW_f, EvR_some, EvN_some, EvO_cons, EvO_nil, wanted, exec, put, passed, opd,
    List.length_cons, List.length_nil, Nat.zero_add, Nat.reduceAdd, List.replicate_succ, List.replicate_zero, List.set_cons_zero, List.set_cons_succ, List.getD_cons_zero, List.getD_cons_succ, Option.map_some, Option.map_none, List.map_cons, List.map_nil,
    bin_add, bin_sub, bin_mul, bin_eql, bin_neq, bin_lss, bin_leq, bin_gtr, bin_geq, bin_quo_nat, bin_rem_nat, bin_or_hi, bin_shr32, bin_shl32, lenV_slice, lenV_ref, ne_eq, not_false_eq_true, beq_true, beq_false, Bool.not_true, Bool.not_false, wrap_i64, wrap_u64, dec_t, dec_f, ite_t, ite_f, ibeq_t, ibeq_f, ibne_t, ibne_f, index_slice, index_ref, slice_slice_hi, slice_ref_hi, Int.natCast_add, Int.cast_ofNat_Int, Int.add_sub_cancel, Int.toNat_natCast, Int.toNat_natCast_add_one, Int.reduceToNat, Nat.mul_one, load_dg, shareL_dg, adoptV, if_true, if_false, ite_true, ite_false, Bool.true_eq, Bool.false_eq_true, beq_self_eq_true, reduceCtorEq, reduceIte, Nat.reduceMul, Nat.reduceSub, Nat.reduceLT, Nat.reduceLeDiff, Nat.reduceEqDiff]
  refine Ev_loop (fun n s => n ≤ A.length ∧ A.drop n = B.drop n ∧ s = ⟨[.slice false 1 A.length (dg A), .slice false 1 B.length (dg B), .undef, .int .i64 ((n : Int) - 1)], [], [], 0⟩) A.length ⟨Nat.le_refl _, by rw [List.drop_length, hlen, List.drop_length], ?_⟩ ?_
  · simp only [norm, keepLive, compact, List.range_zero, List.range_succ, List.nil_append, List.cons_append, List.append_nil, List.contains_cons, List.contains_nil, Bool.or_false, Bool.or_true, Bool.false_or, Bool.true_or, Nat.reduceBEq, beq_self_eq_true, idsL, ids, addId, List.filter_cons, List.filter_nil, decide_true, decide_false, List.map_cons, List.map_nil, maskD, within, withinL, mapD, mapL, subRows, getRow, List.idxOf_cons, List.idxOf_nil, cond_true, cond_false, Bool.and_true, Bool.true_and, if_true, if_false, Bool.false_eq_true, List.length_cons, List.length_nil, Nat.zero_add, Nat.reduceAdd, Nat.reduceLT, List.getD_cons_zero, List.getD_cons_succ, List.set_cons_zero, List.set_cons_succ, reduceIte, reduceCtorEq]
  · rintro n s ⟨h1, h2, rfl⟩
    cases n with
    | zero =>
      simp only [List.drop_zero] at h2
      have e : cmpI x y = 0 := by rw [← v1, ← v2, h2]; simp [cmpI]
      simp -implicitDefEqProofs (disch := first | omega | (apply calm_by; decide)) only [List.cons_append, List.nil_append, Ev_seq, Ev_region, Ev_skip, Ev_exit, Ev_ret, Ev_block, Ev_cond, Ev_ghost, Ev_draw_calm, GoOn_cmp, GoOn_nil, GoOn_thn, GoOn_thn_e, GoOn_thn_r, GoOn_blk, GoOn_blk_e, GoOn_blk_r, onN_n, onN_e, onN_r, Round_n, Round_e, Round_r, EvC_t, EvC_f, EvW_t, EvW_f, EvR_some, EvN_some, EvO_cons, EvO_nil, wanted, exec, put, passed, opd,
    List.length_cons, List.length_nil, Nat.zero_add, Nat.reduceAdd, List.replicate_succ, List.replicate_zero, List.set_cons_zero, List.set_cons_succ, List.getD_cons_zero, List.getD_cons_succ, Option.map_some, Option.map_none, List.map_cons, List.map_nil,
    bin_add, bin_sub, bin_mul, bin_eql, bin_neq, bin_lss, bin_leq, bin_gtr, bin_geq, bin_quo_nat, bin_rem_nat, bin_or_hi, bin_shr32, bin_shl32, lenV_slice, lenV_ref, ne_eq, not_false_eq_true, beq_true, beq_false, Bool.not_true, Bool.not_false, wrap_i64, wrap_u64, dec_t, dec_f, ite_t, ite_f, ibeq_t, ibeq_f, ibne_t, ibne_f, index_slice, index_ref, slice_slice_hi, slice_ref_hi, Int.natCast_add, Int.cast_ofNat_Int, Int.add_sub_cancel, Int.toNat_natCast, Int.toNat_natCast_add_one, Int.reduceToNat, Nat.mul_one, load_dg, shareL_dg, adoptV, if_true, if_false, ite_true, ite_false, Bool.true_eq, Bool.false_eq_true, beq_self_eq_true, reduceCtorEq, reduceIte, Nat.reduceMul, Nat.reduceSub, Nat.reduceLT, Nat.reduceLeDiff, Nat.reduceEqDiff, dg_length, take_dg, List.take_length, ends_n, ends_r, results, resVs, resV, giveV, giveVs, shareV, theRow, List.getElem?_cons_zero, List.getElem?_cons_succ, Option.map_some, List.take_zero, List.take_nil, List.take_succ_cons, e]
    | succ n =>
      have hA := drop_get A n (by omega)
      have hB := drop_get B n (by omega)
      by_cases c3 : A.getD n 0 = B.getD n 0
      · simp -implicitDefEqProofs (disch := first | omega | (apply calm_by; decide)) only [List.cons_append, List.nil_append, Ev_seq, Ev_region, Ev_skip, Ev_exit, Ev_ret, Ev_block, Ev_cond, Ev_ghost, Ev_draw_calm, GoOn_cmp, GoOn_nil, GoOn_thn, GoOn_thn_e, GoOn_thn_r, GoOn_blk, GoOn_blk_e, GoOn_blk_r, onN_n, onN_e, onN_r, Round_n, Round_e, Round_r, EvC_t, EvC_f, EvW_t, EvW_f, EvR_some, EvN_some, EvO_cons, EvO_nil, wanted, exec, put, passed, opd,
    List.length_cons, List.length_nil, Nat.zero_add, Nat.reduceAdd, List.replicate_succ, List.replicate_zero, List.set_cons_zero, List.set_cons_succ, List.getD_cons_zero, List.getD_cons_succ, Option.map_some, Option.map_none, List.map_cons, List.map_nil,
    bin_add, bin_sub, bin_mul, bin_eql, bin_neq, bin_lss, bin_leq, bin_gtr, bin_geq, bin_quo_nat, bin_rem_nat, bin_or_hi, bin_shr32, bin_shl32, lenV_slice, lenV_ref, ne_eq, not_false_eq_true, beq_true, beq_false, Bool.not_true, Bool.not_false, wrap_i64, wrap_u64, dec_t, dec_f, ite_t, ite_f, ibeq_t, ibeq_f, ibne_t, ibne_f, index_slice, index_ref, slice_slice_hi, slice_ref_hi, Int.natCast_add, Int.cast_ofNat_Int, Int.add_sub_cancel, Int.toNat_natCast, Int.toNat_natCast_add_one, Int.reduceToNat, Nat.mul_one, load_dg, shareL_dg, adoptV, if_true, if_false, ite_true, ite_false, Bool.true_eq, Bool.false_eq_true, beq_self_eq_true, reduceCtorEq, reduceIte, Nat.reduceMul, Nat.reduceSub, Nat.reduceLT, Nat.reduceLeDiff, Nat.reduceEqDiff, norm, keepLive, compact, List.range_zero, List.range_succ, List.nil_append, List.cons_append, List.append_nil, List.contains_cons, List.contains_nil, Bool.or_false, Bool.or_true, Bool.false_or, Bool.true_or, Nat.reduceBEq, beq_self_eq_true, idsL, ids, addId, List.filter_cons, List.filter_nil, decide_true, decide_false, List.map_cons, List.map_nil, maskD, within, withinL, mapD, mapL, subRows, getRow, List.idxOf_cons, List.idxOf_nil, cond_true, cond_false, Bool.and_true, Bool.true_and, if_true, if_false, Bool.false_eq_true, List.length_cons, List.length_nil, Nat.zero_add, Nat.reduceAdd, Nat.reduceLT, List.getD_cons_zero, List.getD_cons_succ, List.set_cons_zero, List.set_cons_succ, reduceIte, reduceCtorEq]
        exact ⟨n, by omega, by omega, by rw [hA, hB, c3, h2], rfl⟩
      · by_cases c4 : A.getD n 0 < B.getD n 0
        · have q := cmp_at d1 hlen n (by omega) h2 c4
          rw [v1, v2] at q
          have e : cmpI x y = -1 := by simp [cmpI, q]
          simp -implicitDefEqProofs (disch := first | omega | (apply calm_by; decide)) only [List.cons_append, List.nil_append, Ev_seq, Ev_region, Ev_skip, Ev_exit, Ev_ret, Ev_block, Ev_cond, Ev_ghost, Ev_draw_calm, GoOn_cmp, GoOn_nil, GoOn_thn, GoOn_thn_e, GoOn_thn_r, GoOn_blk, GoOn_blk_e, GoOn_blk_r, onN_n, onN_e, onN_r, Round_n, Round_e, Round_r, EvC_t, EvC_f, EvW_t, EvW_f, EvR_some, EvN_some, EvO_cons, EvO_nil, wanted, exec, put, passed, opd,
    List.length_cons, List.length_nil, Nat.zero_add, Nat.reduceAdd, List.replicate_succ, List.replicate_zero, List.set_cons_zero, List.set_cons_succ, List.getD_cons_zero, List.getD_cons_succ, Option.map_some, Option.map_none, List.map_cons, List.map_nil,
    bin_add, bin_sub, bin_mul, bin_eql, bin_neq, bin_lss, bin_leq, bin_gtr, bin_geq, bin_quo_nat, bin_rem_nat, bin_or_hi, bin_shr32, bin_shl32, lenV_slice, lenV_ref, ne_eq, not_false_eq_true, beq_true, beq_false, Bool.not_true, Bool.not_false, wrap_i64, wrap_u64, dec_t, dec_f, ite_t, ite_f, ibeq_t, ibeq_f, ibne_t, ibne_f, index_slice, index_ref, slice_slice_hi, slice_ref_hi, Int.natCast_add, Int.cast_ofNat_Int, Int.add_sub_cancel, Int.toNat_natCast, Int.toNat_natCast_add_one, Int.reduceToNat, Nat.mul_one, load_dg, shareL_dg, adoptV, if_true, if_false, ite_true, ite_false, Bool.true_eq, Bool.false_eq_true, beq_self_eq_true, reduceCtorEq, reduceIte, Nat.reduceMul, Nat.reduceSub, Nat.reduceLT, Nat.reduceLeDiff, Nat.reduceEqDiff, norm, keepLive, compact, List.range_zero, List.range_succ, List.nil_append, List.cons_append, List.append_nil, List.contains_cons, List.contains_nil, Bool.or_false, Bool.or_true, Bool.false_or, Bool.true_or, Nat.reduceBEq, beq_self_eq_true, idsL, ids, addId, List.filter_cons, List.filter_nil, decide_true, decide_false, List.map_cons, List.map_nil, maskD, within, withinL, mapD, mapL, subRows, getRow, List.idxOf_cons, List.idxOf_nil, cond_true, cond_false, Bool.and_true, Bool.true_and, if_true, if_false, Bool.false_eq_true, List.length_cons, List.length_nil, Nat.zero_add, Nat.reduceAdd, Nat.reduceLT, List.getD_cons_zero, List.getD_cons_succ, List.set_cons_zero, List.set_cons_succ, reduceIte, reduceCtorEq, dg_length, take_dg, List.take_length, ends_n, ends_r, results, resVs, resV, giveV, giveVs, shareV, theRow, List.getElem?_cons_zero, List.getElem?_cons_succ, Option.map_some, List.take_zero, List.take_nil, List.take_succ_cons, e]
        · have q := cmp_at d2 hlen.symm n (by omega) h2.symm (by omega)
          rw [v1, v2] at q
          have e : cmpI x y = 1 := by unfold cmpI; rw [if_neg (by omega), if_pos q]
          simp -implicitDefEqProofs (disch := first | omega | (apply calm_by; decide)) only [List.cons_append, List.nil_append, Ev_seq, Ev_region, Ev_skip, Ev_exit, Ev_ret, Ev_block, Ev_cond, Ev_ghost, Ev_draw_calm, GoOn_cmp, GoOn_nil, GoOn_thn, GoOn_thn_e, GoOn_thn_r, GoOn_blk, GoOn_blk_e, GoOn_blk_r, onN_n, onN_e, onN_r, Round_n, Round_e, Round_r, EvC_t, EvC_f, EvW_t, EvW_f, EvR_some, EvN_some, EvO_cons, EvO_nil, wanted, exec, put, passed, opd,
    List.length_cons, List.length_nil, Nat.zero_add, Nat.reduceAdd, List.replicate_succ, List.replicate_zero, List.set_cons_zero, List.set_cons_succ, List.getD_cons_zero, List.getD_cons_succ, Option.map_some, Option.map_none, List.map_cons, List.map_nil,
    bin_add, bin_sub, bin_mul, bin_eql, bin_neq, bin_lss, bin_leq, bin_gtr, bin_geq, bin_quo_nat, bin_rem_nat, bin_or_hi, bin_shr32, bin_shl32, lenV_slice, lenV_ref, ne_eq, not_false_eq_true, beq_true, beq_false, Bool.not_true, Bool.not_false, wrap_i64, wrap_u64, dec_t, dec_f, ite_t, ite_f, ibeq_t, ibeq_f, ibne_t, ibne_f, index_slice, index_ref, slice_slice_hi, slice_ref_hi, Int.natCast_add, Int.cast_ofNat_Int, Int.add_sub_cancel, Int.toNat_natCast, Int.toNat_natCast_add_one, Int.reduceToNat, Nat.mul_one, load_dg, shareL_dg, adoptV, if_true, if_false, ite_true, ite_false, Bool.true_eq, Bool.false_eq_true, beq_self_eq_true, reduceCtorEq, reduceIte, Nat.reduceMul, Nat.reduceSub, Nat.reduceLT, Nat.reduceLeDiff, Nat.reduceEqDiff, norm, keepLive, compact, List.range_zero, List.range_succ, List.nil_append, List.cons_append, List.append_nil, List.contains_cons, List.contains_nil, Bool.or_false, Bool.or_true, Bool.false_or, Bool.true_or, Nat.reduceBEq, beq_self_eq_true, idsL, ids, addId, List.filter_cons, List.filter_nil, decide_true, decide_false, List.map_cons, List.map_nil, maskD, within, withinL, mapD, mapL, subRows, getRow, List.idxOf_cons, List.idxOf_nil, cond_true, cond_false, Bool.and_true, Bool.true_and, if_true, if_false, Bool.false_eq_true, List.length_cons, List.length_nil, Nat.zero_add, Nat.reduceAdd, Nat.reduceLT, List.getD_cons_zero, List.getD_cons_succ, List.set_cons_zero, List.set_cons_succ, reduceIte, reduceCtorEq, dg_length, take_dg, List.take_length, ends_n, ends_r, results, resVs, resV, giveV, giveVs, shareV, theRow, List.getElem?_cons_zero, List.getElem?_cons_succ, Option.map_some, List.take_zero, List.take_nil, List.take_succ_cons, e]
end
end Av
namespace Av
open Go
set_option linter.unusedSimpArgs false
section
variable {T : Nat → Option Fun}

theorem from_ok (h : Has1 T) (n : Nat) (hn : n < 18446744073709551616) : callW T 22 [.int .u64 n] [] = some (natO (digs n), []) := by
  refine callW_ev (h 22 (.code F.f22) rfl) rfl ?_
  simp only [F.f22, adoptVs, adoptV, List.cons_append, List.nil_append]
  by_cases c0 : n = 0
  · subst c0
    simp -implicitDefEqProofs (disch := first | omega | (apply calm_by; decide)) only [List.cons_append, List.nil_append, Ev_seq, Ev_region, Ev_skip, Ev_exit, Ev_ret, Ev_block, Ev_cond, Ev_ghost, Ev_draw_calm, GoOn_cmp, GoOn_nil, GoOn_thn, GoOn_thn_e, GoOn_thn_r, GoOn_blk, GoOn_blk_e, GoOn_blk_r, onN_n, onN_e, onN_r, Round_n, Round_e, Round_r, EvC_t, EvC_f, EvW_t, EvW_f, EvR_some, EvN_some, EvO_cons, EvO_nil, wanted, exec, put, passed, opd,
    List.length_cons, List.length_nil, Nat.zero_add, Nat.reduceAdd, List.replicate_succ, List.replicate_zero, List.set_cons_zero, List.set_cons_succ, List.getD_cons_zero, List.getD_cons_succ, Option.map_some, Option.map_none, List.map_cons, List.map_nil,
    bin_add, bin_sub, bin_mul, bin_eql, bin_neq, bin_lss, bin_leq, bin_gtr, bin_geq, bin_quo_nat, bin_rem_nat, bin_or_hi, bin_shr32, bin_shl32, lenV_slice, lenV_ref, ne_eq, not_false_eq_true, beq_true, beq_false, Bool.not_true, Bool.not_false, wrap_i64, wrap_u64, dec_t, dec_f, ite_t, ite_f, ibeq_t, ibeq_f, ibne_t, ibne_f, index_slice, index_ref, slice_slice_hi, slice_ref_hi, Int.natCast_add, Int.cast_ofNat_Int, Int.add_sub_cancel, Int.toNat_natCast, Int.toNat_natCast_add_one, Int.reduceToNat, Nat.mul_one, load_dg, shareL_dg, adoptV, if_true, if_false, ite_true, ite_false, Bool.true_eq, Bool.false_eq_true, beq_self_eq_true, reduceCtorEq, reduceIte, Nat.reduceMul, Nat.reduceSub, Nat.reduceLT, Nat.reduceLeDiff, Nat.reduceEqDiff, dg_length, take_dg, List.take_length, ends_n, ends_r, results, resVs, resV, giveV, giveVs, shareV, theRow, List.getElem?_cons_zero, List.getElem?_cons_succ, Option.map_some, List.take_zero, List.take_nil, List.take_succ_cons]
    rw [digs_zero]; rfl
  by_cases c1 : n < 4294967296
  · have e : digs n = [n] := by rw [digs_pos c0, show n / 4294967296 = 0 by omega, digs_zero, Nat.mod_eq_of_lt c1]
    have e2 : (n : Int) / 4294967296 = 0 := by omega
    have e3 : IntKind.u32.wrap (n : Int) = n := wrap_u32 _ (by omega)
    simp -implicitDefEqProofs (disch := first | omega | (apply calm_by; decide)) only [List.cons_append, List.nil_append, Ev_seq, Ev_region, Ev_skip, Ev_exit, Ev_ret, Ev_block, Ev_cond, Ev_ghost, Ev_draw_calm, GoOn_cmp, GoOn_nil, GoOn_thn, GoOn_thn_e, GoOn_thn_r, GoOn_blk, GoOn_blk_e, GoOn_blk_r, onN_n, onN_e, onN_r, Round_n, Round_e, Round_r, EvC_t, EvC_f, EvW_t, EvW_f, EvR_some, EvN_some, EvO_cons, EvO_nil, wanted, exec, put, passed, opd,
    List.length_cons, List.length_nil, Nat.zero_add, Nat.reduceAdd, List.replicate_succ, List.replicate_zero, List.set_cons_zero, List.set_cons_succ, List.getD_cons_zero, List.getD_cons_succ, Option.map_some, Option.map_none, List.map_cons, List.map_nil,
    bin_add, bin_sub, bin_mul, bin_eql, bin_neq, bin_lss, bin_leq, bin_gtr, bin_geq, bin_quo_nat, bin_rem_nat, bin_or_hi, bin_shr32, bin_shl32, lenV_slice, lenV_ref, ne_eq, not_false_eq_true, beq_true, beq_false, Bool.not_true, Bool.not_false, wrap_i64, wrap_u64, dec_t, dec_f, ite_t, ite_f, ibeq_t, ibeq_f, ibne_t, ibne_f, index_slice, index_ref, slice_slice_hi, slice_ref_hi, Int.natCast_add, Int.cast_ofNat_Int, Int.add_sub_cancel, Int.toNat_natCast, Int.toNat_natCast_add_one, Int.reduceToNat, Nat.mul_one, load_dg, shareL_dg, adoptV, if_true, if_false, ite_true, ite_false, Bool.true_eq, Bool.false_eq_true, beq_self_eq_true, reduceCtorEq, reduceIte, Nat.reduceMul, Nat.reduceSub, Nat.reduceLT, Nat.reduceLeDiff, Nat.reduceEqDiff, comps, zeros, fill, layAt, List.zip_cons_cons, List.zip_nil_left, List.zip_nil_right, List.all_cons, List.all_nil, storable, List.append_nil, List.cons_append, List.nil_append, true_and, and_self, Nat.le_refl, Bool.and_self, giveVs, giveV, adoptV, madeV, Option.map_some, List.map_cons, List.map_nil, dg_length, take_dg, List.take_length, ends_n, ends_r, results, resVs, resV, giveV, giveVs, shareV, theRow, List.getElem?_cons_zero, List.getElem?_cons_succ, Option.map_some, List.take_zero, List.take_nil, List.take_succ_cons, e2, e3]
    rw [e]; rfl
  · have e : digs n = [n % 4294967296, n / 4294967296] := by rw [digs_pos c0, digs_pos (by omega), show n / 4294967296 / 4294967296 = 0 by omega, digs_zero, Nat.mod_eq_of_lt (show n / 4294967296 < 4294967296 by omega)]
    have e2 : ((n : Int) / 4294967296 == 0) = false := ibeq_f _ _ (by omega)
    have e3 : IntKind.u32.wrap (n : Int) = ((n % 4294967296 : Nat) : Int) := by rw [wrap_u32_mod]; omega
    have e4 : IntKind.u32.wrap ((n : Int) / 4294967296) = ((n / 4294967296 : Nat) : Int) := by rw [wrap_u32_mod]; omega
    simp -implicitDefEqProofs (disch := first | omega | (apply calm_by; decide)) only [List.cons_append, List.nil_append, Ev_seq, Ev_region, Ev_skip, Ev_exit, Ev_ret, Ev_block, Ev_cond, Ev_ghost, Ev_draw_calm, GoOn_cmp, GoOn_nil, GoOn_thn, GoOn_thn_e, GoOn_thn_r, GoOn_blk, GoOn_blk_e, GoOn_blk_r, onN_n, onN_e, onN_r, Round_n, Round_e, Round_r, EvC_t, EvC_f, EvW_t, EvW_f, EvR_some, EvN_some, EvO_cons, EvO_nil, wanted, exec, put, passed, opd,
    List.length_cons, List.length_nil, Nat.zero_add, Nat.reduceAdd, List.replicate_succ, List.replicate_zero, List.set_cons_zero, List.set_cons_succ, List.getD_cons_zero, List.getD_cons_succ, Option.map_some, Option.map_none, List.map_cons, List.map_nil,
    bin_add, bin_sub, bin_mul, bin_eql, bin_neq, bin_lss, bin_leq, bin_gtr, bin_geq, bin_quo_nat, bin_rem_nat, bin_or_hi, bin_shr32, bin_shl32, lenV_slice, lenV_ref, ne_eq, not_false_eq_true, beq_true, beq_false, Bool.not_true, Bool.not_false, wrap_i64, wrap_u64, dec_t, dec_f, ite_t, ite_f, ibeq_t, ibeq_f, ibne_t, ibne_f, index_slice, index_ref, slice_slice_hi, slice_ref_hi, Int.natCast_add, Int.cast_ofNat_Int, Int.add_sub_cancel, Int.toNat_natCast, Int.toNat_natCast_add_one, Int.reduceToNat, Nat.mul_one, load_dg, shareL_dg, adoptV, if_true, if_false, ite_true, ite_false, Bool.true_eq, Bool.false_eq_true, beq_self_eq_true, reduceCtorEq, reduceIte, Nat.reduceMul, Nat.reduceSub, Nat.reduceLT, Nat.reduceLeDiff, Nat.reduceEqDiff, comps, zeros, fill, layAt, List.zip_cons_cons, List.zip_nil_left, List.zip_nil_right, List.all_cons, List.all_nil, storable, List.append_nil, List.cons_append, List.nil_append, true_and, and_self, Nat.le_refl, Bool.and_self, giveVs, giveV, adoptV, madeV, Option.map_some, List.map_cons, List.map_nil, dg_length, take_dg, List.take_length, ends_n, ends_r, results, resVs, resV, giveV, giveVs, shareV, theRow, List.getElem?_cons_zero, List.getElem?_cons_succ, Option.map_some, List.take_zero, List.take_nil, List.take_succ_cons, e2, e3, e4]
    rw [e]; rfl

theorem dg_set (a : List Nat) (i : Nat) (z : Int) (h : 0 ≤ z) : (dg a).set i (.int .u32 z) = dg (a.set i z.toNat) := by
  simp only [dg, List.map_set]
  rw [Int.toNat_of_nonneg h]
theorem zeros_u32 : ∀ n, zeros [.int .u32 0] n = dg (List.replicate n 0)
  | 0 => rfl
  | n + 1 => by simp [zeros, zeros_u32 n, dg, List.replicate_succ]
theorem room_t (n b : Nat) (h : n * b ≤ 140737488355328) : room n b = true := by simp [room, h]
/-- A digit of a row is written. -/
theorem store_dg (rows : Rows) (r v i : Nat) (a : List Nat) (z : Int) (hr : rows[r]? = some (some ⟨dg a, false, 0, 0⟩)) (h : i < a.length) (hz : 0 ≤ z) :
    storeV rows true 1 (.addr r [] v i) (.int .u32 z) = some (rows.set r (some ⟨dg (a.set i z.toNat), false, 0, 0⟩)) := by
  have h1 : theRow rows r = some ⟨dg a, false, 0, 0⟩ := by unfold theRow; rw [hr]
  have h2 : i + 1 ≤ (dg a).length := by rw [dg_length]; omega
  simp [storeV, comps, giveVs, giveV, storable, scalarD, cellsAt, h1, setCells, layAt, h2, dg_set a i z hz]

theorem add_ok (h : Has1 T) (a b : List Nat) (ha : Dig a) (hb : Dig b) (hla : a.length ≤ 2 ^ 40) (hlb : b.length ≤ 2 ^ 40) :
    callW T 15 [.slice false 1 a.length (dg a), .slice false 1 b.length (dg b)] [] = some (natO (digs (val a + val b)), []) := by
  refine callW_ev (h 15 (.code F.f15) rfl) rfl ?_
  simp only [F.f15, adoptVs, adoptV, List.cons_append, List.nil_append]
  have t1 := trim_shared h a ha (by omega)
  have t2 := trim_shared h b hb (by omega)
  have l1 := val_len ha
  have l2 := val_len hb
  have d1 := dig_digs (val a)
  have d2 := dig_digs (val b)
  have v1 := val_digs (val a)
  have v2 := val_digs (val b)
  generalize val a = x at *
  generalize val b = y at *
  generalize digs x = A at *
  generalize digs y = B at *
  rw [Ev_assoc, Ev_assoc]
  refine ev_cut (fun s => ∃ (A B : List Nat) (ts : List D), Dig A ∧ Dig B ∧ B.length ≤ A.length ∧ A.length ≤ 2 ^ 40 ∧ val A + val B = x + y ∧
    s = ⟨[.slice false 1 A.length (dg A), .slice false 1 B.length (dg B), .slice true 1 0 [], .undef, .undef, .undef, .undef, .undef], ts, [], 0⟩) ?_ ?_
  · simp -implicitDefEqProofs (disch := first | omega | (apply calm_by; decide)) only [List.cons_append, List.nil_append, Ev_seq, Ev_region, Ev_skip, Ev_exit, Ev_ret, Ev_block, Ev_cond, Ev_ghost, Ev_draw_calm, GoOn_cmp, GoOn_nil, GoOn_thn, GoOn_thn_e, GoOn_thn_r, GoOn_blk, GoOn_blk_e, GoOn_blk_r, onN_n, onN_e, onN_r, Round_n, Round_e, Round_r, EvC_t, EvC_f, EvW_t, EvW_f, EvR_some, EvN_some, EvO_cons, EvO_nil, wanted, exec, put, passed, opd,
    List.length_cons, List.length_nil, Nat.zero_add, Nat.reduceAdd, List.replicate_succ, List.replicate_zero, List.set_cons_zero, List.set_cons_succ, List.getD_cons_zero, List.getD_cons_succ, Option.map_some, Option.map_none, List.map_cons, List.map_nil,
    bin_add, bin_sub, bin_mul, bin_eql, bin_neq, bin_lss, bin_leq, bin_gtr, bin_geq, bin_quo_nat, bin_rem_nat, bin_or_hi, bin_shr32, bin_shl32, lenV_slice, lenV_ref, ne_eq, not_false_eq_true, beq_true, beq_false, Bool.not_true, Bool.not_false, wrap_i64, wrap_u64, dec_t, dec_f, ite_t, ite_f, ibeq_t, ibeq_f, ibne_t, ibne_f, index_slice, index_ref, slice_slice_hi, slice_ref_hi, Int.natCast_add, Int.cast_ofNat_Int, Int.add_sub_cancel, Int.toNat_natCast, Int.toNat_natCast_add_one, Int.reduceToNat, Nat.mul_one, load_dg, shareL_dg, adoptV, if_true, if_false, ite_true, ite_false, Bool.true_eq, Bool.false_eq_true, beq_self_eq_true, reduceCtorEq, reduceIte, Nat.reduceMul, Nat.reduceSub, Nat.reduceLT, Nat.reduceLeDiff, Nat.reduceEqDiff, callV, takeArgs, takeV, lendArgs, lendV, lendVs, List.headD_cons, List.headD_nil, List.tail_cons, List.tail_nil, List.contains_cons, List.contains_nil, m_al, m_sl, m_ol, m_ll, m_la, m_ls, m_lo, Bool.or_false, Bool.or_true, Bool.false_or, Bool.true_or, idsL, ids, madeV, shareV, shareVs, adoptV, adoptVs, ownOnly, ownOnlyL, Bool.true_and, Bool.and_true, Bool.and_false, Bool.false_and, List.isEmpty_nil, List.isEmpty_cons, giveV, giveVs, Bool.not_false, Bool.not_true, reduceCtorEq, Bool.false_eq_true, if_false, if_true, t1, t2]
    by_cases c : A.length < B.length
    · simp -implicitDefEqProofs (disch := first | omega | (apply calm_by; decide)) only [List.cons_append, List.nil_append, Ev_seq, Ev_region, Ev_skip, Ev_exit, Ev_ret, Ev_block, Ev_cond, Ev_ghost, Ev_draw_calm, GoOn_cmp, GoOn_nil, GoOn_thn, GoOn_thn_e, GoOn_thn_r, GoOn_blk, GoOn_blk_e, GoOn_blk_r, onN_n, onN_e, onN_r, Round_n, Round_e, Round_r, EvC_t, EvC_f, EvW_t, EvW_f, EvR_some, EvN_some, EvO_cons, EvO_nil, wanted, exec, put, passed, opd,
    List.length_cons, List.length_nil, Nat.zero_add, Nat.reduceAdd, List.replicate_succ, List.replicate_zero, List.set_cons_zero, List.set_cons_succ, List.getD_cons_zero, List.getD_cons_succ, Option.map_some, Option.map_none, List.map_cons, List.map_nil,
    bin_add, bin_sub, bin_mul, bin_eql, bin_neq, bin_lss, bin_leq, bin_gtr, bin_geq, bin_quo_nat, bin_rem_nat, bin_or_hi, bin_shr32, bin_shl32, lenV_slice, lenV_ref, ne_eq, not_false_eq_true, beq_true, beq_false, Bool.not_true, Bool.not_false, wrap_i64, wrap_u64, dec_t, dec_f, ite_t, ite_f, ibeq_t, ibeq_f, ibne_t, ibne_f, index_slice, index_ref, slice_slice_hi, slice_ref_hi, Int.natCast_add, Int.cast_ofNat_Int, Int.add_sub_cancel, Int.toNat_natCast, Int.toNat_natCast_add_one, Int.reduceToNat, Nat.mul_one, load_dg, shareL_dg, adoptV, if_true, if_false, ite_true, ite_false, Bool.true_eq, Bool.false_eq_true, beq_self_eq_true, reduceCtorEq, reduceIte, Nat.reduceMul, Nat.reduceSub, Nat.reduceLT, Nat.reduceLeDiff, Nat.reduceEqDiff]
      exact ⟨B, A, _, d2, d1, by omega, by omega, by omega, rfl⟩
    · simp -implicitDefEqProofs (disch := first | omega | (apply calm_by; decide)) only [List.cons_append, List.nil_append, Ev_seq, Ev_region, Ev_skip, Ev_exit, Ev_ret, Ev_block, Ev_cond, Ev_ghost, Ev_draw_calm, GoOn_cmp, GoOn_nil, GoOn_thn, GoOn_thn_e, GoOn_thn_r, GoOn_blk, GoOn_blk_e, GoOn_blk_r, onN_n, onN_e, onN_r, Round_n, Round_e, Round_r, EvC_t, EvC_f, EvW_t, EvW_f, EvR_some, EvN_some, EvO_cons, EvO_nil, wanted, exec, put, passed, opd,
    List.length_cons, List.length_nil, Nat.zero_add, Nat.reduceAdd, List.replicate_succ, List.replicate_zero, List.set_cons_zero, List.set_cons_succ, List.getD_cons_zero, List.getD_cons_succ, Option.map_some, Option.map_none, List.map_cons, List.map_nil,
    bin_add, bin_sub, bin_mul, bin_eql, bin_neq, bin_lss, bin_leq, bin_gtr, bin_geq, bin_quo_nat, bin_rem_nat, bin_or_hi, bin_shr32, bin_shl32, lenV_slice, lenV_ref, ne_eq, not_false_eq_true, beq_true, beq_false, Bool.not_true, Bool.not_false, wrap_i64, wrap_u64, dec_t, dec_f, ite_t, ite_f, ibeq_t, ibeq_f, ibne_t, ibne_f, index_slice, index_ref, slice_slice_hi, slice_ref_hi, Int.natCast_add, Int.cast_ofNat_Int, Int.add_sub_cancel, Int.toNat_natCast, Int.toNat_natCast_add_one, Int.reduceToNat, Nat.mul_one, load_dg, shareL_dg, adoptV, if_true, if_false, ite_true, ite_false, Bool.true_eq, Bool.false_eq_true, beq_self_eq_true, reduceCtorEq, reduceIte, Nat.reduceMul, Nat.reduceSub, Nat.reduceLT, Nat.reduceLeDiff, Nat.reduceEqDiff]
      exact ⟨A, B, _, d1, d2, by omega, by omega, by omega, rfl⟩
  rintro s ⟨A, B, ts, d1, d2, hl, hb, hv, rfl⟩
  have hroom : room (A.length + 1) 4 = true := room_t _ _ (by omega)
  simp -implicitDefEqProofs (disch := first | omega | (apply calm_by; decide)) only [List.cons_append, List.nil_append, Ev_seq, Ev_region, Ev_skip, Ev_exit, Ev_ret, Ev_block, Ev_cond, Ev_ghost, Ev_draw_calm, GoOn_cmp, GoOn_nil, GoOn_thn, GoOn_thn_e, GoOn_thn_r, GoOn_blk, GoOn_blk_e, GoOn_blk_r, onN_n, onN_e, onN_r, Round_n, Round_e, Round_r, EvC_t, EvC_f, EvW_t, EvW_f, EvR_some, EvN_some, EvO_cons, EvO_nil, wanted, exec, put, passed, opd,
    List.length_cons, List.length_nil, Nat.zero_add, Nat.reduceAdd, List.replicate_succ, List.replicate_zero, List.set_cons_zero, List.set_cons_succ, List.getD_cons_zero, List.getD_cons_succ, Option.map_some, Option.map_none, List.map_cons, List.map_nil,
    bin_add, bin_sub, bin_mul, bin_eql, bin_neq, bin_lss, bin_leq, bin_gtr, bin_geq, bin_quo_nat, bin_rem_nat, bin_or_hi, bin_shr32, bin_shl32, lenV_slice, lenV_ref, ne_eq, not_false_eq_true, beq_true, beq_false, Bool.not_true, Bool.not_false, wrap_i64, wrap_u64, dec_t, dec_f, ite_t, ite_f, ibeq_t, ibeq_f, ibne_t, ibne_f, index_slice, index_ref, slice_slice_hi, slice_ref_hi, Int.natCast_add, Int.cast_ofNat_Int, Int.add_sub_cancel, Int.toNat_natCast, Int.toNat_natCast_add_one, Int.reduceToNat, Nat.mul_one, load_dg, shareL_dg, adoptV, if_true, if_false, ite_true, ite_false, Bool.true_eq, Bool.false_eq_true, beq_self_eq_true, reduceCtorEq, reduceIte, Nat.reduceMul, Nat.reduceSub, Nat.reduceLT, Nat.reduceLeDiff, Nat.reduceEqDiff, hroom, zeros_u32, and_true, callV, takeArgs, takeV, lendArgs, lendV, lendVs, List.headD_cons, List.headD_nil, List.tail_cons, List.tail_nil, List.contains_cons, List.contains_nil, m_al, m_sl, m_ol, m_ll, m_la, m_ls, m_lo, Bool.or_false, Bool.or_true, Bool.false_or, Bool.true_or, idsL, ids, madeV, shareV, shareVs, adoptV, adoptVs, ownOnly, ownOnlyL, Bool.true_and, Bool.and_true, Bool.and_false, Bool.false_and, List.isEmpty_nil, List.isEmpty_cons, giveV, giveVs, Bool.not_false, Bool.not_true, reduceCtorEq, Bool.false_eq_true, if_false, if_true]
  refine Ev_loop (fun n s => ∃ (i c : Nat) (out : List Nat), i + n = A.length ∧ out.length = A.length + 1 ∧ Dig out ∧ c ≤ 1 ∧ val (out.take i) + 4294967296 ^ i * c = val (A.take i) + val (B.take i) ∧
    s = ⟨[.slice false 1 A.length (dg A), .slice false 1 B.length (dg B), .undef, .ref 0 [] 0 0 (A.length + 1) 1, .int .u64 c, .undef, .int .i64 A.length, .int .i64 i], [], [some ⟨dg out, false, 0, 0⟩], 0⟩)
    A.length ⟨0, 0, List.replicate (A.length + 1) 0, by omega, by simp, fun z hz => by rw [List.eq_of_mem_replicate hz]; omega, by omega, by simp [val], ?_⟩ ?_
  · simp only [norm, keepLive, compact, List.range_zero, List.range_succ, List.nil_append, List.cons_append, List.append_nil, List.contains_cons, List.contains_nil, Bool.or_false, Bool.or_true, Bool.false_or, Bool.true_or, Nat.reduceBEq, beq_self_eq_true, idsL, ids, addId, List.filter_cons, List.filter_nil, decide_true, decide_false, List.map_cons, List.map_nil, maskD, within, withinL, mapD, mapL, subRows, getRow, List.idxOf_cons, List.idxOf_nil, cond_true, cond_false, Bool.and_true, Bool.true_and, if_true, if_false, Bool.false_eq_true, List.length_cons, List.length_nil, Nat.zero_add, Nat.reduceAdd, Nat.reduceLT, List.getD_cons_zero, List.getD_cons_succ, List.set_cons_zero, List.set_cons_succ, reduceIte, reduceCtorEq]; rfl
  · rintro n s ⟨i, c, out, hi, ho, hdo, hc, hval, rfl⟩
    have hst : ∀ (i : Nat) (z : Int), i < A.length + 1 → 0 ≤ z → storeV [some ⟨dg out, false, 0, 0⟩] true 1 (.addr 0 [] 0 i) (.int .u32 z) = some [some ⟨dg (out.set i z.toNat), false, 0, 0⟩] := fun i z h1 h2 => store_dg _ 0 0 i out z rfl (by omega) h2
    cases n with
    | zero =>
      have t3 := trim_own h (out.set A.length c) (hdo.set _ _ (by omega)) (by simp; omega)
      have e : val (out.set A.length c) = x + y := by
        have e1 := val_set out A.length c (by omega)
        rw [List.take_of_length_le (by simp; omega)] at e1
        have e2 : i = A.length := by omega
        subst e2
        rw [List.take_of_length_le (Nat.le_refl _), List.take_of_length_le hl] at hval
        omega
      rw [e] at t3
      have e3 : (out.set A.length c).length = A.length + 1 := by simp; omega
      rw [e3] at t3
      have e4 : List.take (A.length + 1) (out.set A.length c) = out.set A.length c := List.take_of_length_le (by omega)
      simp -implicitDefEqProofs (disch := first | omega | (apply calm_by; decide)) only [List.cons_append, List.nil_append, Ev_seq, Ev_region, Ev_skip, Ev_exit, Ev_ret, Ev_block, Ev_cond, Ev_ghost, Ev_draw_calm, GoOn_cmp, GoOn_nil, GoOn_thn, GoOn_thn_e, GoOn_thn_r, GoOn_blk, GoOn_blk_e, GoOn_blk_r, onN_n, onN_e, onN_r, Round_n, Round_e, Round_r, EvC_t, EvC_f, EvW_t, EvW_f, EvR_some, EvN_some, EvO_cons, EvO_nil, wanted, exec, put, passed, opd,
    List.length_cons, List.length_nil, Nat.zero_add, Nat.reduceAdd, List.replicate_succ, List.replicate_zero, List.set_cons_zero, List.set_cons_succ, List.getD_cons_zero, List.getD_cons_succ, Option.map_some, Option.map_none, List.map_cons, List.map_nil,
    bin_add, bin_sub, bin_mul, bin_eql, bin_neq, bin_lss, bin_leq, bin_gtr, bin_geq, bin_quo_nat, bin_rem_nat, bin_or_hi, bin_shr32, bin_shl32, lenV_slice, lenV_ref, ne_eq, not_false_eq_true, beq_true, beq_false, Bool.not_true, Bool.not_false, wrap_i64, wrap_u64, dec_t, dec_f, ite_t, ite_f, ibeq_t, ibeq_f, ibne_t, ibne_f, index_slice, index_ref, slice_slice_hi, slice_ref_hi, Int.natCast_add, Int.cast_ofNat_Int, Int.add_sub_cancel, Int.toNat_natCast, Int.toNat_natCast_add_one, Int.reduceToNat, Nat.mul_one, load_dg, shareL_dg, adoptV, if_true, if_false, ite_true, ite_false, Bool.true_eq, Bool.false_eq_true, beq_self_eq_true, reduceCtorEq, reduceIte, Nat.reduceMul, Nat.reduceSub, Nat.reduceLT, Nat.reduceLeDiff, Nat.reduceEqDiff, wrap_u32, hst, callV, takeArgs, takeV, lendArgs, lendV, lendVs, List.headD_cons, List.headD_nil, List.tail_cons, List.tail_nil, List.contains_cons, List.contains_nil, m_al, m_sl, m_ol, m_ll, m_la, m_ls, m_lo, Bool.or_false, Bool.or_true, Bool.false_or, Bool.true_or, idsL, ids, madeV, shareV, shareVs, adoptV, adoptVs, ownOnly, ownOnlyL, Bool.true_and, Bool.and_true, Bool.and_false, Bool.false_and, List.isEmpty_nil, List.isEmpty_cons, giveV, giveVs, Bool.not_false, Bool.not_true, reduceCtorEq, Bool.false_eq_true, if_false, if_true, dg_length, take_dg, List.take_length, ends_n, ends_r, results, resVs, resV, giveV, giveVs, shareV, theRow, List.getElem?_cons_zero, List.getElem?_cons_succ, Option.map_some, List.take_zero, List.take_nil, List.take_succ_cons, theRow, e4, t3, natO]
    | succ n =>
      have g1 := d1.get i
      have g2 := d2.get i
      have v1 := val_take' A i
      have v2 := val_take' B i
      have fin : ∀ z : Nat, z = c + A.getD i 0 + B.getD i 0 → ∃ m, m < n + 1 ∧ ∃ (i' c' : Nat) (out' : List Nat), i' + m = A.length ∧ out'.length = A.length + 1 ∧ Dig out' ∧ c' ≤ 1 ∧ val (out'.take i') + 4294967296 ^ i' * c' = val (A.take i') + val (B.take i') ∧
          (⟨[.slice false 1 A.length (dg A), .slice false 1 B.length (dg B), .undef, .ref 0 [] 0 0 (A.length + 1) 1, .int .u64 ((z : Int) / 4294967296), .undef, .int .i64 A.length, .int .i64 ((i : Int) + 1)], [], [some ⟨dg (out.set i ((z : Int) % 4294967296).toNat), false, 0, 0⟩], 0⟩ : St) =
          ⟨[.slice false 1 A.length (dg A), .slice false 1 B.length (dg B), .undef, .ref 0 [] 0 0 (A.length + 1) 1, .int .u64 (c' : Nat), .undef, .int .i64 A.length, .int .i64 (i' : Nat)], [], [some ⟨dg out', false, 0, 0⟩], 0⟩ := fun z hz => by
        refine ⟨n, by omega, i + 1, z / 4294967296, out.set i (z % 4294967296), by omega, by simp [ho], hdo.set _ _ (by omega), by omega, ?_, ?_⟩
        · have q1 := val_set out i (z % 4294967296) (by omega)
          have q2 := carry_eq i z
          rw [hz] at q1 q2 ⊢
          rw [Nat.mul_add, Nat.mul_add] at q2
          omega
        · have q1 : ((z : Int) % 4294967296).toNat = z % 4294967296 := by omega
          rw [q1]; rfl
      by_cases cB : i < B.length
      · simp -implicitDefEqProofs (disch := first | omega | (apply calm_by; decide)) only [List.cons_append, List.nil_append, Ev_seq, Ev_region, Ev_skip, Ev_exit, Ev_ret, Ev_block, Ev_cond, Ev_ghost, Ev_draw_calm, GoOn_cmp, GoOn_nil, GoOn_thn, GoOn_thn_e, GoOn_thn_r, GoOn_blk, GoOn_blk_e, GoOn_blk_r, onN_n, onN_e, onN_r, Round_n, Round_e, Round_r, EvC_t, EvC_f, EvW_t, EvW_f, EvR_some, EvN_some, EvO_cons, EvO_nil, wanted, exec, put, passed, opd,
    List.length_cons, List.length_nil, Nat.zero_add, Nat.reduceAdd, List.replicate_succ, List.replicate_zero, List.set_cons_zero, List.set_cons_succ, List.getD_cons_zero, List.getD_cons_succ, Option.map_some, Option.map_none, List.map_cons, List.map_nil,
    bin_add, bin_sub, bin_mul, bin_eql, bin_neq, bin_lss, bin_leq, bin_gtr, bin_geq, bin_quo_nat, bin_rem_nat, bin_or_hi, bin_shr32, bin_shl32, lenV_slice, lenV_ref, ne_eq, not_false_eq_true, beq_true, beq_false, Bool.not_true, Bool.not_false, wrap_i64, wrap_u64, dec_t, dec_f, ite_t, ite_f, ibeq_t, ibeq_f, ibne_t, ibne_f, index_slice, index_ref, slice_slice_hi, slice_ref_hi, Int.natCast_add, Int.cast_ofNat_Int, Int.add_sub_cancel, Int.toNat_natCast, Int.toNat_natCast_add_one, Int.reduceToNat, Nat.mul_one, load_dg, shareL_dg, adoptV, if_true, if_false, ite_true, ite_false, Bool.true_eq, Bool.false_eq_true, beq_self_eq_true, reduceCtorEq, reduceIte, Nat.reduceMul, Nat.reduceSub, Nat.reduceLT, Nat.reduceLeDiff, Nat.reduceEqDiff, wrap_u32_mod, hst, norm, keepLive, compact, List.range_zero, List.range_succ, List.nil_append, List.cons_append, List.append_nil, List.contains_cons, List.contains_nil, Bool.or_false, Bool.or_true, Bool.false_or, Bool.true_or, Nat.reduceBEq, beq_self_eq_true, idsL, ids, addId, List.filter_cons, List.filter_nil, decide_true, decide_false, List.map_cons, List.map_nil, maskD, within, withinL, mapD, mapL, subRows, getRow, List.idxOf_cons, List.idxOf_nil, cond_true, cond_false, Bool.and_true, Bool.true_and, if_true, if_false, Bool.false_eq_true, List.length_cons, List.length_nil, Nat.zero_add, Nat.reduceAdd, Nat.reduceLT, List.getD_cons_zero, List.getD_cons_succ, List.set_cons_zero, List.set_cons_succ, reduceIte, reduceCtorEq]
        exact fin _ rfl
      · have g3 : B.getD i 0 = 0 := by simp [List.getD, List.getElem?_eq_none (Nat.le_of_not_lt cB)]
        simp -implicitDefEqProofs (disch := first | omega | (apply calm_by; decide)) only [List.cons_append, List.nil_append, Ev_seq, Ev_region, Ev_skip, Ev_exit, Ev_ret, Ev_block, Ev_cond, Ev_ghost, Ev_draw_calm, GoOn_cmp, GoOn_nil, GoOn_thn, GoOn_thn_e, GoOn_thn_r, GoOn_blk, GoOn_blk_e, GoOn_blk_r, onN_n, onN_e, onN_r, Round_n, Round_e, Round_r, EvC_t, EvC_f, EvW_t, EvW_f, EvR_some, EvN_some, EvO_cons, EvO_nil, wanted, exec, put, passed, opd,
    List.length_cons, List.length_nil, Nat.zero_add, Nat.reduceAdd, List.replicate_succ, List.replicate_zero, List.set_cons_zero, List.set_cons_succ, List.getD_cons_zero, List.getD_cons_succ, Option.map_some, Option.map_none, List.map_cons, List.map_nil,
    bin_add, bin_sub, bin_mul, bin_eql, bin_neq, bin_lss, bin_leq, bin_gtr, bin_geq, bin_quo_nat, bin_rem_nat, bin_or_hi, bin_shr32, bin_shl32, lenV_slice, lenV_ref, ne_eq, not_false_eq_true, beq_true, beq_false, Bool.not_true, Bool.not_false, wrap_i64, wrap_u64, dec_t, dec_f, ite_t, ite_f, ibeq_t, ibeq_f, ibne_t, ibne_f, index_slice, index_ref, slice_slice_hi, slice_ref_hi, Int.natCast_add, Int.cast_ofNat_Int, Int.add_sub_cancel, Int.toNat_natCast, Int.toNat_natCast_add_one, Int.reduceToNat, Nat.mul_one, load_dg, shareL_dg, adoptV, if_true, if_false, ite_true, ite_false, Bool.true_eq, Bool.false_eq_true, beq_self_eq_true, reduceCtorEq, reduceIte, Nat.reduceMul, Nat.reduceSub, Nat.reduceLT, Nat.reduceLeDiff, Nat.reduceEqDiff, wrap_u32_mod, hst, norm, keepLive, compact, List.range_zero, List.range_succ, List.nil_append, List.cons_append, List.append_nil, List.contains_cons, List.contains_nil, Bool.or_false, Bool.or_true, Bool.false_or, Bool.true_or, Nat.reduceBEq, beq_self_eq_true, idsL, ids, addId, List.filter_cons, List.filter_nil, decide_true, decide_false, List.map_cons, List.map_nil, maskD, within, withinL, mapD, mapL, subRows, getRow, List.idxOf_cons, List.idxOf_nil, cond_true, cond_false, Bool.and_true, Bool.true_and, if_true, if_false, Bool.false_eq_true, List.length_cons, List.length_nil, Nat.zero_add, Nat.reduceAdd, Nat.reduceLT, List.getD_cons_zero, List.getD_cons_succ, List.set_cons_zero, List.set_cons_succ, reduceIte, reduceCtorEq]
        exact fin (c + A.getD i 0) (by omega)
end
end Av
namespace Av
open Go
set_option linter.unusedSimpArgs false
section
variable {T : Nat → Option Fun}

theorem mul_bound {x y : Nat} (hx : x < 4294967296) (hy : y < 4294967296) : x * y ≤ 18446744065119617025 := Nat.mul_le_mul (show x ≤ 4294967295 by omega) (show y ≤ 4294967295 by omega)

theorem mul_step {O out B : List Nat} {i k c x : Nat} (ho : i + k < out.length) (he : out.getD (i + k) 0 = O.getD (i + k) 0)
    (h : val (out.take (i + k)) + 4294967296 ^ (i + k) * c = val (O.take (i + k)) + 4294967296 ^ i * (x * val (B.take k))) (z : Nat) (hz : z = c + (x * B.getD k 0 + out.getD (i + k) 0)) :
    val ((out.set (i + k) (z % 4294967296)).take (i + (k + 1))) + 4294967296 ^ (i + (k + 1)) * (z / 4294967296) = val (O.take (i + (k + 1))) + 4294967296 ^ i * (x * val (B.take (k + 1))) := by
  have q1 := val_set out (i + k) (z % 4294967296) ho
  have q2 := carry_eq (i + k) z
  have q3 := val_take' O (i + k)
  have q4 := val_take' B k
  rw [show i + (k + 1) = i + k + 1 by omega, q1, q3, q4]
  have q5 : 4294967296 ^ (i + k) * z = 4294967296 ^ (i + k) * c + 4294967296 ^ i * (x * (4294967296 ^ k * B.getD k 0)) + 4294967296 ^ (i + k) * O.getD (i + k) 0 := by
    rw [hz, he, Nat.pow_add, Nat.mul_add, Nat.mul_add]
    have : 4294967296 ^ i * 4294967296 ^ k * (x * B.getD k 0) = 4294967296 ^ i * (x * (4294967296 ^ k * B.getD k 0)) := by
      rw [Nat.mul_assoc, Nat.mul_left_comm (4294967296 ^ k)]
    omega
  have q6 : x * (val (B.take k) + 4294967296 ^ k * B.getD k 0) = x * val (B.take k) + x * (4294967296 ^ k * B.getD k 0) := Nat.mul_add _ _ _
  rw [q6, Nat.mul_add]
  omega

set_option maxHeartbeats 2000000 in
theorem mul_ok (h : Has1 T) (a b : List Nat) (ha : Dig a) (hb : Dig b) (hla : a.length ≤ 2 ^ 40) (hlb : b.length ≤ 2 ^ 40) :
    callW T 14 [.slice false 1 a.length (dg a), .slice false 1 b.length (dg b)] [] = some (natO (digs (val a * val b)), []) := by
  refine callW_ev (h 14 (.code F.f14) rfl) rfl ?_
  simp only [F.f14, adoptVs, adoptV, List.cons_append, List.nil_append]
  have t1 := trim_shared h a ha (by omega)
  have t2 := trim_shared h b hb (by omega)
  have l1 := val_len ha
  have l2 := val_len hb
  have d1 := dig_digs (val a)
  have d2 := dig_digs (val b)
  have v1 := val_digs (val a)
  have v2 := val_digs (val b)
  generalize val a = x at *
  generalize val b = y at *
  generalize digs x = A at *
  generalize digs y = B at *
  simp -implicitDefEqProofs (disch := first | omega | (apply calm_by; decide)) only [List.cons_append, List.nil_append, Ev_seq, Ev_region, Ev_skip, Ev_exit, Ev_ret, Ev_block, Ev_cond, Ev_ghost, Ev_draw_calm, GoOn_cmp, GoOn_nil, GoOn_thn, GoOn_thn_e, GoOn_thn_r, GoOn_blk, GoOn_blk_e, GoOn_blk_r, onN_n, onN_e, onN_r, Round_n, Round_e, Round_r, EvC_t, EvC_f, EvW_t, EvW_f, EvR_some, EvN_some, EvO_cons, EvO_nil, wanted, exec, put, passed, opd,
    List.length_cons, List.length_nil, Nat.zero_add, Nat.reduceAdd, List.replicate_succ, List.replicate_zero, List.set_cons_zero, List.set_cons_succ, List.getD_cons_zero, List.getD_cons_succ, Option.map_some, Option.map_none, List.map_cons, List.map_nil,
    bin_add, bin_sub, bin_mul, bin_eql, bin_neq, bin_lss, bin_leq, bin_gtr, bin_geq, bin_quo_nat, bin_rem_nat, bin_or_hi, bin_shr32, bin_shl32, lenV_slice, lenV_ref, ne_eq, not_false_eq_true, beq_true, beq_false, Bool.not_true, Bool.not_false, wrap_i64, wrap_u64, dec_t, dec_f, ite_t, ite_f, ibeq_t, ibeq_f, ibne_t, ibne_f, index_slice, index_ref, slice_slice_hi, slice_ref_hi, Int.natCast_add, Int.cast_ofNat_Int, Int.add_sub_cancel, Int.toNat_natCast, Int.toNat_natCast_add_one, Int.reduceToNat, Nat.mul_one, load_dg, shareL_dg, adoptV, if_true, if_false, ite_true, ite_false, Bool.true_eq, Bool.false_eq_true, beq_self_eq_true, reduceCtorEq, reduceIte, Nat.reduceMul, Nat.reduceSub, Nat.reduceLT, Nat.reduceLeDiff, Nat.reduceEqDiff, callV, takeArgs, takeV, lendArgs, lendV, lendVs, List.headD_cons, List.headD_nil, List.tail_cons, List.tail_nil, List.contains_cons, List.contains_nil, m_al, m_sl, m_ol, m_ll, m_la, m_ls, m_lo, Bool.or_false, Bool.or_true, Bool.false_or, Bool.true_or, idsL, ids, madeV, shareV, shareVs, adoptV, adoptVs, ownOnly, ownOnlyL, Bool.true_and, Bool.and_true, Bool.and_false, Bool.false_and, List.isEmpty_nil, List.isEmpty_cons, giveV, giveVs, Bool.not_false, Bool.not_true, reduceCtorEq, Bool.false_eq_true, if_false, if_true, t1, t2]
  by_cases cA : A.length = 0
  · have e : digs (x * y) = [] := by
      have : A = [] := List.eq_nil_of_length_eq_zero cA
      subst this
      rw [← v1]; simp [val, digs_zero]
    simp -implicitDefEqProofs (disch := first | omega | (apply calm_by; decide)) only [List.cons_append, List.nil_append, Ev_seq, Ev_region, Ev_skip, Ev_exit, Ev_ret, Ev_block, Ev_cond, Ev_ghost, Ev_draw_calm, GoOn_cmp, GoOn_nil, GoOn_thn, GoOn_thn_e, GoOn_thn_r, GoOn_blk, GoOn_blk_e, GoOn_blk_r, onN_n, onN_e, onN_r, Round_n, Round_e, Round_r, EvC_t, EvC_f, EvW_t, EvW_f, EvR_some, EvN_some, EvO_cons, EvO_nil, wanted, exec, put, passed, opd,
    List.length_cons, List.length_nil, Nat.zero_add, Nat.reduceAdd, List.replicate_succ, List.replicate_zero, List.set_cons_zero, List.set_cons_succ, List.getD_cons_zero, List.getD_cons_succ, Option.map_some, Option.map_none, List.map_cons, List.map_nil,
    bin_add, bin_sub, bin_mul, bin_eql, bin_neq, bin_lss, bin_leq, bin_gtr, bin_geq, bin_quo_nat, bin_rem_nat, bin_or_hi, bin_shr32, bin_shl32, lenV_slice, lenV_ref, ne_eq, not_false_eq_true, beq_true, beq_false, Bool.not_true, Bool.not_false, wrap_i64, wrap_u64, dec_t, dec_f, ite_t, ite_f, ibeq_t, ibeq_f, ibne_t, ibne_f, index_slice, index_ref, slice_slice_hi, slice_ref_hi, Int.natCast_add, Int.cast_ofNat_Int, Int.add_sub_cancel, Int.toNat_natCast, Int.toNat_natCast_add_one, Int.reduceToNat, Nat.mul_one, load_dg, shareL_dg, adoptV, if_true, if_false, ite_true, ite_false, Bool.true_eq, Bool.false_eq_true, beq_self_eq_true, reduceCtorEq, reduceIte, Nat.reduceMul, Nat.reduceSub, Nat.reduceLT, Nat.reduceLeDiff, Nat.reduceEqDiff, dg_length, take_dg, List.take_length, ends_n, ends_r, results, resVs, resV, giveV, giveVs, shareV, theRow, List.getElem?_cons_zero, List.getElem?_cons_succ, Option.map_some, List.take_zero, List.take_nil, List.take_succ_cons, e]
    rfl
  by_cases cB : B.length = 0
  · have e : digs (x * y) = [] := by
      have : B = [] := List.eq_nil_of_length_eq_zero cB
      subst this
      rw [← v2]; simp [val, digs_zero]
    simp -implicitDefEqProofs (disch := first | omega | (apply calm_by; decide)) only [List.cons_append, List.nil_append, Ev_seq, Ev_region, Ev_skip, Ev_exit, Ev_ret, Ev_block, Ev_cond, Ev_ghost, Ev_draw_calm, GoOn_cmp, GoOn_nil, GoOn_thn, GoOn_thn_e, GoOn_thn_r, GoOn_blk, GoOn_blk_e, GoOn_blk_r, onN_n, onN_e, onN_r, Round_n, Round_e, Round_r, EvC_t, EvC_f, EvW_t, EvW_f, EvR_some, EvN_some, EvO_cons, EvO_nil, wanted, exec, put, passed, opd,
    List.length_cons, List.length_nil, Nat.zero_add, Nat.reduceAdd, List.replicate_succ, List.replicate_zero, List.set_cons_zero, List.set_cons_succ, List.getD_cons_zero, List.getD_cons_succ, Option.map_some, Option.map_none, List.map_cons, List.map_nil,
    bin_add, bin_sub, bin_mul, bin_eql, bin_neq, bin_lss, bin_leq, bin_gtr, bin_geq, bin_quo_nat, bin_rem_nat, bin_or_hi, bin_shr32, bin_shl32, lenV_slice, lenV_ref, ne_eq, not_false_eq_true, beq_true, beq_false, Bool.not_true, Bool.not_false, wrap_i64, wrap_u64, dec_t, dec_f, ite_t, ite_f, ibeq_t, ibeq_f, ibne_t, ibne_f, index_slice, index_ref, slice_slice_hi, slice_ref_hi, Int.natCast_add, Int.cast_ofNat_Int, Int.add_sub_cancel, Int.toNat_natCast, Int.toNat_natCast_add_one, Int.reduceToNat, Nat.mul_one, load_dg, shareL_dg, adoptV, if_true, if_false, ite_true, ite_false, Bool.true_eq, Bool.false_eq_true, beq_self_eq_true, reduceCtorEq, reduceIte, Nat.reduceMul, Nat.reduceSub, Nat.reduceLT, Nat.reduceLeDiff, Nat.reduceEqDiff, dg_length, take_dg, List.take_length, ends_n, ends_r, results, resVs, resV, giveV, giveVs, shareV, theRow, List.getElem?_cons_zero, List.getElem?_cons_succ, Option.map_some, List.take_zero, List.take_nil, List.take_succ_cons, e]
    rfl
  have hroom : room (A.length + B.length) 4 = true := room_t _ _ (by omega)
  have hcast : ((A.length : Int) + (B.length : Int)).toNat = A.length + B.length := by omega
  simp -implicitDefEqProofs (disch := first | omega | (apply calm_by; decide)) only [List.cons_append, List.nil_append, Ev_seq, Ev_region, Ev_skip, Ev_exit, Ev_ret, Ev_block, Ev_cond, Ev_ghost, Ev_draw_calm, GoOn_cmp, GoOn_nil, GoOn_thn, GoOn_thn_e, GoOn_thn_r, GoOn_blk, GoOn_blk_e, GoOn_blk_r, onN_n, onN_e, onN_r, Round_n, Round_e, Round_r, EvC_t, EvC_f, EvW_t, EvW_f, EvR_some, EvN_some, EvO_cons, EvO_nil, wanted, exec, put, passed, opd,
    List.length_cons, List.length_nil, Nat.zero_add, Nat.reduceAdd, List.replicate_succ, List.replicate_zero, List.set_cons_zero, List.set_cons_succ, List.getD_cons_zero, List.getD_cons_succ, Option.map_some, Option.map_none, List.map_cons, List.map_nil,
    bin_add, bin_sub, bin_mul, bin_eql, bin_neq, bin_lss, bin_leq, bin_gtr, bin_geq, bin_quo_nat, bin_rem_nat, bin_or_hi, bin_shr32, bin_shl32, lenV_slice, lenV_ref, ne_eq, not_false_eq_true, beq_true, beq_false, Bool.not_true, Bool.not_false, wrap_i64, wrap_u64, dec_t, dec_f, ite_t, ite_f, ibeq_t, ibeq_f, ibne_t, ibne_f, index_slice, index_ref, slice_slice_hi, slice_ref_hi, Int.natCast_add, Int.cast_ofNat_Int, Int.add_sub_cancel, Int.toNat_natCast, Int.toNat_natCast_add_one, Int.reduceToNat, Nat.mul_one, load_dg, shareL_dg, adoptV, if_true, if_false, ite_true, ite_false, Bool.true_eq, Bool.false_eq_true, beq_self_eq_true, reduceCtorEq, reduceIte, Nat.reduceMul, Nat.reduceSub, Nat.reduceLT, Nat.reduceLeDiff, Nat.reduceEqDiff, hcast, hroom, zeros_u32, and_true, callV, takeArgs, takeV, lendArgs, lendV, lendVs, List.headD_cons, List.headD_nil, List.tail_cons, List.tail_nil, List.contains_cons, List.contains_nil, m_al, m_sl, m_ol, m_ll, m_la, m_ls, m_lo, Bool.or_false, Bool.or_true, Bool.false_or, Bool.true_or, idsL, ids, madeV, shareV, shareVs, adoptV, adoptVs, ownOnly, ownOnlyL, Bool.true_and, Bool.and_true, Bool.and_false, Bool.false_and, List.isEmpty_nil, List.isEmpty_cons, giveV, giveVs, Bool.not_false, Bool.not_true, reduceCtorEq, Bool.false_eq_true, if_false, if_true]
  refine Ev_loop (fun n s => ∃ (i : Nat) (out : List Nat), i + n = A.length ∧ out.length = A.length + B.length ∧ Dig out ∧ val (out.take (i + B.length)) = val (A.take i) * y ∧ (∀ j, i + B.length ≤ j → out.getD j 0 = 0) ∧
    s = ⟨[.undef, .slice false 1 B.length (dg B), .undef, .ref 0 [] 0 0 (A.length + B.length) 1, .undef, .undef, .undef, .undef, .undef, .slice false 1 A.length (dg A), .int .i64 A.length, .int .i64 i, .undef, .undef, .undef], [], [some ⟨dg out, false, 0, 0⟩], 0⟩)
    A.length ⟨0, List.replicate (A.length + B.length) 0, by omega, by simp, fun z hz => by rw [List.eq_of_mem_replicate hz]; omega, by rw [List.take_replicate, val_zeros]; simp [val], fun j _ => by simp only [List.getD, List.getElem?_replicate]; split <;> rfl, ?_⟩ ?_
  · simp only [norm, keepLive, compact, List.range_zero, List.range_succ, List.nil_append, List.cons_append, List.append_nil, List.contains_cons, List.contains_nil, Bool.or_false, Bool.or_true, Bool.false_or, Bool.true_or, Nat.reduceBEq, beq_self_eq_true, idsL, ids, addId, List.filter_cons, List.filter_nil, decide_true, decide_false, List.map_cons, List.map_nil, maskD, within, withinL, mapD, mapL, subRows, getRow, List.idxOf_cons, List.idxOf_nil, cond_true, cond_false, Bool.and_true, Bool.true_and, if_true, if_false, Bool.false_eq_true, List.length_cons, List.length_nil, Nat.zero_add, Nat.reduceAdd, Nat.reduceLT, List.getD_cons_zero, List.getD_cons_succ, List.set_cons_zero, List.set_cons_succ, reduceIte, reduceCtorEq]; rfl
  rintro n s ⟨i, O, hi, ho, hdo, hval, hz, rfl⟩
  cases n with
  | zero =>
    have t3 := trim_own h O hdo (by omega)
    have e : val O = x * y := by
      have e2 : i = A.length := by omega
      subst e2
      rw [List.take_of_length_le (by omega), List.take_of_length_le (Nat.le_refl _), v1] at hval
      exact hval
    rw [e, ho] at t3
    have e4 : List.take (A.length + B.length) O = O := List.take_of_length_le (by omega)
    simp -implicitDefEqProofs (disch := first | omega | (apply calm_by; decide)) only [List.cons_append, List.nil_append, Ev_seq, Ev_region, Ev_skip, Ev_exit, Ev_ret, Ev_block, Ev_cond, Ev_ghost, Ev_draw_calm, GoOn_cmp, GoOn_nil, GoOn_thn, GoOn_thn_e, GoOn_thn_r, GoOn_blk, GoOn_blk_e, GoOn_blk_r, onN_n, onN_e, onN_r, Round_n, Round_e, Round_r, EvC_t, EvC_f, EvW_t, EvW_f, EvR_some, EvN_some, EvO_cons, EvO_nil, wanted, exec, put, passed, opd,
    List.length_cons, List.length_nil, Nat.zero_add, Nat.reduceAdd, List.replicate_succ, List.replicate_zero, List.set_cons_zero, List.set_cons_succ, List.getD_cons_zero, List.getD_cons_succ, Option.map_some, Option.map_none, List.map_cons, List.map_nil,
    bin_add, bin_sub, bin_mul, bin_eql, bin_neq, bin_lss, bin_leq, bin_gtr, bin_geq, bin_quo_nat, bin_rem_nat, bin_or_hi, bin_shr32, bin_shl32, lenV_slice, lenV_ref, ne_eq, not_false_eq_true, beq_true, beq_false, Bool.not_true, Bool.not_false, wrap_i64, wrap_u64, dec_t, dec_f, ite_t, ite_f, ibeq_t, ibeq_f, ibne_t, ibne_f, index_slice, index_ref, slice_slice_hi, slice_ref_hi, Int.natCast_add, Int.cast_ofNat_Int, Int.add_sub_cancel, Int.toNat_natCast, Int.toNat_natCast_add_one, Int.reduceToNat, Nat.mul_one, load_dg, shareL_dg, adoptV, if_true, if_false, ite_true, ite_false, Bool.true_eq, Bool.false_eq_true, beq_self_eq_true, reduceCtorEq, reduceIte, Nat.reduceMul, Nat.reduceSub, Nat.reduceLT, Nat.reduceLeDiff, Nat.reduceEqDiff, callV, takeArgs, takeV, lendArgs, lendV, lendVs, List.headD_cons, List.headD_nil, List.tail_cons, List.tail_nil, List.contains_cons, List.contains_nil, m_al, m_sl, m_ol, m_ll, m_la, m_ls, m_lo, Bool.or_false, Bool.or_true, Bool.false_or, Bool.true_or, idsL, ids, madeV, shareV, shareVs, adoptV, adoptVs, ownOnly, ownOnlyL, Bool.true_and, Bool.and_true, Bool.and_false, Bool.false_and, List.isEmpty_nil, List.isEmpty_cons, giveV, giveVs, Bool.not_false, Bool.not_true, reduceCtorEq, Bool.false_eq_true, if_false, if_true, dg_length, take_dg, List.take_length, ends_n, ends_r, results, resVs, resV, giveV, giveVs, shareV, theRow, List.getElem?_cons_zero, List.getElem?_cons_succ, Option.map_some, List.take_zero, List.take_nil, List.take_succ_cons, theRow, ho, e4, t3, natO]
  | succ n =>
    have g1 := d1.get i
    have v3 := val_take' A i
    simp -implicitDefEqProofs (disch := first | omega | (apply calm_by; decide)) only [List.cons_append, List.nil_append, Ev_seq, Ev_region, Ev_skip, Ev_exit, Ev_ret, Ev_block, Ev_cond, Ev_ghost, Ev_draw_calm, GoOn_cmp, GoOn_nil, GoOn_thn, GoOn_thn_e, GoOn_thn_r, GoOn_blk, GoOn_blk_e, GoOn_blk_r, onN_n, onN_e, onN_r, Round_n, Round_e, Round_r, EvC_t, EvC_f, EvW_t, EvW_f, EvR_some, EvN_some, EvO_cons, EvO_nil, wanted, exec, put, passed, opd,
    List.length_cons, List.length_nil, Nat.zero_add, Nat.reduceAdd, List.replicate_succ, List.replicate_zero, List.set_cons_zero, List.set_cons_succ, List.getD_cons_zero, List.getD_cons_succ, Option.map_some, Option.map_none, List.map_cons, List.map_nil,
    bin_add, bin_sub, bin_mul, bin_eql, bin_neq, bin_lss, bin_leq, bin_gtr, bin_geq, bin_quo_nat, bin_rem_nat, bin_or_hi, bin_shr32, bin_shl32, lenV_slice, lenV_ref, ne_eq, not_false_eq_true, beq_true, beq_false, Bool.not_true, Bool.not_false, wrap_i64, wrap_u64, dec_t, dec_f, ite_t, ite_f, ibeq_t, ibeq_f, ibne_t, ibne_f, index_slice, index_ref, slice_slice_hi, slice_ref_hi, Int.natCast_add, Int.cast_ofNat_Int, Int.add_sub_cancel, Int.toNat_natCast, Int.toNat_natCast_add_one, Int.reduceToNat, Nat.mul_one, load_dg, shareL_dg, adoptV, if_true, if_false, ite_true, ite_false, Bool.true_eq, Bool.false_eq_true, beq_self_eq_true, reduceCtorEq, reduceIte, Nat.reduceMul, Nat.reduceSub, Nat.reduceLT, Nat.reduceLeDiff, Nat.reduceEqDiff]
    refine Ev_loop (fun m s => ∃ (k c : Nat) (out : List Nat), k + m = B.length ∧ out.length = A.length + B.length ∧ Dig out ∧ c < 4294967296 ∧ (∀ j, i + k ≤ j → out.getD j 0 = O.getD j 0) ∧
      val (out.take (i + k)) + 4294967296 ^ (i + k) * c = val (O.take (i + k)) + 4294967296 ^ i * (A.getD i 0 * val (B.take k)) ∧
      s = ⟨[.undef, .slice false 1 B.length (dg B), .undef, .ref 0 [] 0 0 (A.length + B.length) 1, .int .i64 i, .int .u32 (A.getD i 0 : Nat), .int .u64 c, .undef, .undef, .slice false 1 A.length (dg A), .int .i64 A.length, .int .i64 i, .slice false 1 B.length (dg B), .int .i64 B.length, .int .i64 k], [], [some ⟨dg out, false, 0, 0⟩], 0⟩)
      B.length ⟨0, 0, O, by omega, ho, hdo, by omega, fun _ _ => rfl, by simp [val], ?_⟩ ?_
    · simp only [norm, keepLive, compact, List.range_zero, List.range_succ, List.nil_append, List.cons_append, List.append_nil, List.contains_cons, List.contains_nil, Bool.or_false, Bool.or_true, Bool.false_or, Bool.true_or, Nat.reduceBEq, beq_self_eq_true, idsL, ids, addId, List.filter_cons, List.filter_nil, decide_true, decide_false, List.map_cons, List.map_nil, maskD, within, withinL, mapD, mapL, subRows, getRow, List.idxOf_cons, List.idxOf_nil, cond_true, cond_false, Bool.and_true, Bool.true_and, if_true, if_false, Bool.false_eq_true, List.length_cons, List.length_nil, Nat.zero_add, Nat.reduceAdd, Nat.reduceLT, List.getD_cons_zero, List.getD_cons_succ, List.set_cons_zero, List.set_cons_succ, reduceIte, reduceCtorEq]; rfl
    rintro m s ⟨k, c, out, hk, ho', hdo', hc, hsame, hv, rfl⟩
    have hst : ∀ (i : Nat) (z : Int), i < A.length + B.length → 0 ≤ z → storeV [some ⟨dg out, false, 0, 0⟩] true 1 (.addr 0 [] 0 i) (.int .u32 z) = some [some ⟨dg (out.set i z.toNat), false, 0, 0⟩] := fun i z h1 h2 => store_dg _ 0 0 i out z rfl (by omega) h2
    have hld : ∀ i, i < A.length + B.length → loadV [some ⟨dg out, false, 0, 0⟩] false 1 (.addr 0 [] 0 i) = some (.int .u32 (out.getD i 0 : Nat)) := fun i hi => load_row _ 0 0 i out false 0 0 rfl (by omega)
    cases m with
    | zero =>
      have ek : k = B.length := by omega
      subst ek
      have hcast2 : ((i : Int) + (B.length : Int)).toNat = i + B.length := by omega
      simp -implicitDefEqProofs (disch := first | omega | (apply calm_by; decide)) only [List.cons_append, List.nil_append, Ev_seq, Ev_region, Ev_skip, Ev_exit, Ev_ret, Ev_block, Ev_cond, Ev_ghost, Ev_draw_calm, GoOn_cmp, GoOn_nil, GoOn_thn, GoOn_thn_e, GoOn_thn_r, GoOn_blk, GoOn_blk_e, GoOn_blk_r, onN_n, onN_e, onN_r, Round_n, Round_e, Round_r, EvC_t, EvC_f, EvW_t, EvW_f, EvR_some, EvN_some, EvO_cons, EvO_nil, wanted, exec, put, passed, opd,
    List.length_cons, List.length_nil, Nat.zero_add, Nat.reduceAdd, List.replicate_succ, List.replicate_zero, List.set_cons_zero, List.set_cons_succ, List.getD_cons_zero, List.getD_cons_succ, Option.map_some, Option.map_none, List.map_cons, List.map_nil,
    bin_add, bin_sub, bin_mul, bin_eql, bin_neq, bin_lss, bin_leq, bin_gtr, bin_geq, bin_quo_nat, bin_rem_nat, bin_or_hi, bin_shr32, bin_shl32, lenV_slice, lenV_ref, ne_eq, not_false_eq_true, beq_true, beq_false, Bool.not_true, Bool.not_false, wrap_i64, wrap_u64, dec_t, dec_f, ite_t, ite_f, ibeq_t, ibeq_f, ibne_t, ibne_f, index_slice, index_ref, slice_slice_hi, slice_ref_hi, Int.natCast_add, Int.cast_ofNat_Int, Int.add_sub_cancel, Int.toNat_natCast, Int.toNat_natCast_add_one, Int.reduceToNat, Nat.mul_one, load_dg, shareL_dg, adoptV, if_true, if_false, ite_true, ite_false, Bool.true_eq, Bool.false_eq_true, beq_self_eq_true, reduceCtorEq, reduceIte, Nat.reduceMul, Nat.reduceSub, Nat.reduceLT, Nat.reduceLeDiff, Nat.reduceEqDiff, hcast2, wrap_u32, hst, hld, norm, keepLive, compact, List.range_zero, List.range_succ, List.nil_append, List.cons_append, List.append_nil, List.contains_cons, List.contains_nil, Bool.or_false, Bool.or_true, Bool.false_or, Bool.true_or, Nat.reduceBEq, beq_self_eq_true, idsL, ids, addId, List.filter_cons, List.filter_nil, decide_true, decide_false, List.map_cons, List.map_nil, maskD, within, withinL, mapD, mapL, subRows, getRow, List.idxOf_cons, List.idxOf_nil, cond_true, cond_false, Bool.and_true, Bool.true_and, if_true, if_false, Bool.false_eq_true, List.length_cons, List.length_nil, Nat.zero_add, Nat.reduceAdd, Nat.reduceLT, List.getD_cons_zero, List.getD_cons_succ, List.set_cons_zero, List.set_cons_succ, reduceIte, reduceCtorEq]
      refine ⟨n, by omega, i + 1, out.set (i + B.length) c, by omega, by simp [ho'], hdo'.set _ _ hc, ?_, fun j hj => ?_, rfl⟩
      · rw [show i + 1 + B.length = i + B.length + 1 by omega, val_set _ _ _ (by omega), hv, hval, v3, List.take_of_length_le (Nat.le_refl _), v2, Nat.add_mul, Nat.mul_assoc]
      · rw [getD_set_nat (by omega), hsame j (by omega)]
        exact hz j (by omega)
    | succ m =>
      have g2 := d2.get k
      have g3 := hdo'.get (i + k)
      have g4 := mul_bound g1 g2
      have g5 : ((A.getD i 0 : Nat) : Int) * ((B.getD k 0 : Nat) : Int) = ((A.getD i 0 * B.getD k 0 : Nat) : Int) := (Int.natCast_mul _ _).symm
      have hcast2 : ((i : Int) + (k : Int)).toNat = i + k := by omega
      generalize hq : A.getD i 0 * B.getD k 0 = q at *
      simp -implicitDefEqProofs (disch := first | omega | (apply calm_by; decide)) only [List.cons_append, List.nil_append, Ev_seq, Ev_region, Ev_skip, Ev_exit, Ev_ret, Ev_block, Ev_cond, Ev_ghost, Ev_draw_calm, GoOn_cmp, GoOn_nil, GoOn_thn, GoOn_thn_e, GoOn_thn_r, GoOn_blk, GoOn_blk_e, GoOn_blk_r, onN_n, onN_e, onN_r, Round_n, Round_e, Round_r, EvC_t, EvC_f, EvW_t, EvW_f, EvR_some, EvN_some, EvO_cons, EvO_nil, wanted, exec, put, passed, opd,
    List.length_cons, List.length_nil, Nat.zero_add, Nat.reduceAdd, List.replicate_succ, List.replicate_zero, List.set_cons_zero, List.set_cons_succ, List.getD_cons_zero, List.getD_cons_succ, Option.map_some, Option.map_none, List.map_cons, List.map_nil,
    bin_add, bin_sub, bin_mul, bin_eql, bin_neq, bin_lss, bin_leq, bin_gtr, bin_geq, bin_quo_nat, bin_rem_nat, bin_or_hi, bin_shr32, bin_shl32, lenV_slice, lenV_ref, ne_eq, not_false_eq_true, beq_true, beq_false, Bool.not_true, Bool.not_false, wrap_i64, wrap_u64, dec_t, dec_f, ite_t, ite_f, ibeq_t, ibeq_f, ibne_t, ibne_f, index_slice, index_ref, slice_slice_hi, slice_ref_hi, Int.natCast_add, Int.cast_ofNat_Int, Int.add_sub_cancel, Int.toNat_natCast, Int.toNat_natCast_add_one, Int.reduceToNat, Nat.mul_one, load_dg, shareL_dg, adoptV, if_true, if_false, ite_true, ite_false, Bool.true_eq, Bool.false_eq_true, beq_self_eq_true, reduceCtorEq, reduceIte, Nat.reduceMul, Nat.reduceSub, Nat.reduceLT, Nat.reduceLeDiff, Nat.reduceEqDiff, g5, hcast2, wrap_u32_mod, hst, hld, norm, keepLive, compact, List.range_zero, List.range_succ, List.nil_append, List.cons_append, List.append_nil, List.contains_cons, List.contains_nil, Bool.or_false, Bool.or_true, Bool.false_or, Bool.true_or, Nat.reduceBEq, beq_self_eq_true, idsL, ids, addId, List.filter_cons, List.filter_nil, decide_true, decide_false, List.map_cons, List.map_nil, maskD, within, withinL, mapD, mapL, subRows, getRow, List.idxOf_cons, List.idxOf_nil, cond_true, cond_false, Bool.and_true, Bool.true_and, if_true, if_false, Bool.false_eq_true, List.length_cons, List.length_nil, Nat.zero_add, Nat.reduceAdd, Nat.reduceLT, List.getD_cons_zero, List.getD_cons_succ, List.set_cons_zero, List.set_cons_succ, reduceIte, reduceCtorEq]
      have hz2 : (c + (q + out.getD (i + k) 0)) / 4294967296 < 4294967296 := by omega
      refine ⟨m, by omega, k + 1, (c + (q + out.getD (i + k) 0)) / 4294967296, out.set (i + k) ((c + (q + out.getD (i + k) 0)) % 4294967296), by omega, by simp [ho'], hdo'.set _ _ (by omega), hz2, fun j hj => ?_, ?_, ?_⟩
      · rw [getD_set_nat (by omega)]; exact hsame j (by omega)
      · exact mul_step (by omega) (hsame _ (by omega)) hv _ (by rw [hq])
      · have q1 : ((((c : Nat) : Int) + (((q : Nat) : Int) + ((out.getD (i + k) 0 : Nat) : Int))) % 4294967296).toNat = (c + (q + out.getD (i + k) 0)) % 4294967296 := by omega
        rw [q1]; rfl
end
end Av
namespace Av
open Go
set_option linter.unusedSimpArgs false
section
variable {T : Nat → Option Fun}

theorem div_step {n d x R Q V : Nat} (hd : 0 < d) (hR : R = V % d) (hQ : Q = V / d) (hx : x < 4294967296) (hdd : d < 4294967296) :
    (x + 4294967296 * V) % d = (R * 4294967296 + x) % d ∧ (x + 4294967296 * V) / d = (R * 4294967296 + x) / d + 4294967296 * Q ∧ (R * 4294967296 + x) / d < 4294967296 := by
  have e : x + 4294967296 * V = (R * 4294967296 + x) + d * (4294967296 * Q) := by
    have := Nat.mod_add_div V d
    rw [← hR, ← hQ] at this
    rw [← this, Nat.mul_add, Nat.mul_left_comm d]
    omega
  have hRd : R < d := by rw [hR]; exact Nat.mod_lt _ hd
  refine ⟨by rw [e, Nat.add_mul_mod_self_left], by rw [e, Nat.add_mul_div_left _ _ hd], ?_⟩
  rw [Nat.div_lt_iff_lt_mul hd]
  have : (R + 1) * 4294967296 ≤ d * 4294967296 := Nat.mul_le_mul_right _ hRd
  rw [Nat.mul_comm 4294967296 d]
  omega

set_option maxHeartbeats 1000000 in
theorem divSmall_ok (h : Has1 T) (a : List Nat) (d : Nat) (ha : Dig a) (hla : a.length ≤ 2 ^ 40) (hd : 0 < d) (hdd : d < 4294967296) :
    callW T 24 [.slice false 1 a.length (dg a), .int .u32 d] [] = some (.tup [natO (digs (val a / d)), .int .u32 (val a % d : Nat)], []) := by
  refine callW_ev (h 24 (.code F.f24) rfl) rfl ?_
  simp only [F.f24, adoptVs, adoptV, List.cons_append, List.nil_append]
  have hroom : room a.length 4 = true := room_t _ _ (by omega)
  simp -implicitDefEqProofs (disch := first | omega | (apply calm_by; decide)) only [List.cons_append, List.nil_append, Ev_seq, Ev_region, Ev_skip, Ev_exit, Ev_ret, Ev_block, Ev_cond, Ev_ghost, Ev_draw_calm, GoOn_cmp, GoOn_nil, GoOn_thn, GoOn_thn_e, GoOn_thn_r, GoOn_blk, GoOn_blk_e, GoOn_blk_r, onN_n, onN_e, onN_r, Round_n, Round_e, Round_r, EvC_t, EvC_f, EvW_t, EvW_f, EvR_some, EvN_some, EvO_cons, EvO_nil, wanted, exec, put, passed, opd,
    List.length_cons, List.length_nil, Nat.zero_add, Nat.reduceAdd, List.replicate_succ, List.replicate_zero, List.set_cons_zero, List.set_cons_succ, List.getD_cons_zero, List.getD_cons_succ, Option.map_some, Option.map_none, List.map_cons, List.map_nil,
    bin_add, bin_sub, bin_mul, bin_eql, bin_neq, bin_lss, bin_leq, bin_gtr, bin_geq, bin_quo_nat, bin_rem_nat, bin_or_hi, bin_shr32, bin_shl32, lenV_slice, lenV_ref, ne_eq, not_false_eq_true, beq_true, beq_false, Bool.not_true, Bool.not_false, wrap_i64, wrap_u64, dec_t, dec_f, ite_t, ite_f, ibeq_t, ibeq_f, ibne_t, ibne_f, index_slice, index_ref, slice_slice_hi, slice_ref_hi, Int.natCast_add, Int.cast_ofNat_Int, Int.add_sub_cancel, Int.toNat_natCast, Int.toNat_natCast_add_one, Int.reduceToNat, Nat.mul_one, load_dg, shareL_dg, adoptV, if_true, if_false, ite_true, ite_false, Bool.true_eq, Bool.false_eq_true, beq_self_eq_true, reduceCtorEq, reduceIte, Nat.reduceMul, Nat.reduceSub, Nat.reduceLT, Nat.reduceLeDiff, Nat.reduceEqDiff, hroom, zeros_u32, and_true, callV, takeArgs, takeV, lendArgs, lendV, lendVs, List.headD_cons, List.headD_nil, List.tail_cons, List.tail_nil, List.contains_cons, List.contains_nil, m_al, m_sl, m_ol, m_ll, m_la, m_ls, m_lo, Bool.or_false, Bool.or_true, Bool.false_or, Bool.true_or, idsL, ids, madeV, shareV, shareVs, adoptV, adoptVs, ownOnly, ownOnlyL, Bool.true_and, Bool.and_true, Bool.and_false, Bool.false_and, List.isEmpty_nil, List.isEmpty_cons, giveV, giveVs, Bool.not_false, Bool.not_true, reduceCtorEq, Bool.false_eq_true, if_false, if_true]
  refine Ev_loop (fun n s => ∃ (out : List Nat) (r : Nat), n ≤ a.length ∧ out.length = a.length ∧ Dig out ∧ r = val (a.drop n) % d ∧ val (out.drop n) = val (a.drop n) / d ∧
    s = ⟨[.slice false 1 a.length (dg a), .int .u32 d, .undef, .undef, .ref 0 [] 0 0 a.length 1, .int .u64 r, .int .i64 ((n : Int) - 1)], [], [some ⟨dg out, false, 0, 0⟩], 0⟩)
    a.length ⟨List.replicate a.length 0, 0, by omega, by simp, fun z hz => by rw [List.eq_of_mem_replicate hz]; omega, by simp [val], by simp [val], ?_⟩ ?_
  · simp only [norm, keepLive, compact, List.range_zero, List.range_succ, List.nil_append, List.cons_append, List.append_nil, List.contains_cons, List.contains_nil, Bool.or_false, Bool.or_true, Bool.false_or, Bool.true_or, Nat.reduceBEq, beq_self_eq_true, idsL, ids, addId, List.filter_cons, List.filter_nil, decide_true, decide_false, List.map_cons, List.map_nil, maskD, within, withinL, mapD, mapL, subRows, getRow, List.idxOf_cons, List.idxOf_nil, cond_true, cond_false, Bool.and_true, Bool.true_and, if_true, if_false, Bool.false_eq_true, List.length_cons, List.length_nil, Nat.zero_add, Nat.reduceAdd, Nat.reduceLT, List.getD_cons_zero, List.getD_cons_succ, List.set_cons_zero, List.set_cons_succ, reduceIte, reduceCtorEq]; rfl
  rintro n s ⟨out, r, hn, ho, hdo, hr, hq, rfl⟩
  have hrd : r < d := by rw [hr]; exact Nat.mod_lt _ hd
  have hst : ∀ (i : Nat) (z : Int), i < a.length → 0 ≤ z → storeV [some ⟨dg out, false, 0, 0⟩] true 1 (.addr 0 [] 0 i) (.int .u32 z) = some [some ⟨dg (out.set i z.toNat), false, 0, 0⟩] := fun i z h1 h2 => store_dg _ 0 0 i out z rfl (by omega) h2
  cases n with
  | zero =>
    have t3 := trim_own h out hdo (by omega)
    simp only [List.drop_zero] at hr hq
    rw [hq, ho] at t3
    have e4 : List.take a.length out = out := List.take_of_length_le (by omega)
    rw [← hr]
    simp -implicitDefEqProofs (disch := first | omega | (apply calm_by; decide)) only [List.cons_append, List.nil_append, Ev_seq, Ev_region, Ev_skip, Ev_exit, Ev_ret, Ev_block, Ev_cond, Ev_ghost, Ev_draw_calm, GoOn_cmp, GoOn_nil, GoOn_thn, GoOn_thn_e, GoOn_thn_r, GoOn_blk, GoOn_blk_e, GoOn_blk_r, onN_n, onN_e, onN_r, Round_n, Round_e, Round_r, EvC_t, EvC_f, EvW_t, EvW_f, EvR_some, EvN_some, EvO_cons, EvO_nil, wanted, exec, put, passed, opd,
    List.length_cons, List.length_nil, Nat.zero_add, Nat.reduceAdd, List.replicate_succ, List.replicate_zero, List.set_cons_zero, List.set_cons_succ, List.getD_cons_zero, List.getD_cons_succ, Option.map_some, Option.map_none, List.map_cons, List.map_nil,
    bin_add, bin_sub, bin_mul, bin_eql, bin_neq, bin_lss, bin_leq, bin_gtr, bin_geq, bin_quo_nat, bin_rem_nat, bin_or_hi, bin_shr32, bin_shl32, lenV_slice, lenV_ref, ne_eq, not_false_eq_true, beq_true, beq_false, Bool.not_true, Bool.not_false, wrap_i64, wrap_u64, dec_t, dec_f, ite_t, ite_f, ibeq_t, ibeq_f, ibne_t, ibne_f, index_slice, index_ref, slice_slice_hi, slice_ref_hi, Int.natCast_add, Int.cast_ofNat_Int, Int.add_sub_cancel, Int.toNat_natCast, Int.toNat_natCast_add_one, Int.reduceToNat, Nat.mul_one, load_dg, shareL_dg, adoptV, if_true, if_false, ite_true, ite_false, Bool.true_eq, Bool.false_eq_true, beq_self_eq_true, reduceCtorEq, reduceIte, Nat.reduceMul, Nat.reduceSub, Nat.reduceLT, Nat.reduceLeDiff, Nat.reduceEqDiff, wrap_u32, callV, takeArgs, takeV, lendArgs, lendV, lendVs, List.headD_cons, List.headD_nil, List.tail_cons, List.tail_nil, List.contains_cons, List.contains_nil, m_al, m_sl, m_ol, m_ll, m_la, m_ls, m_lo, Bool.or_false, Bool.or_true, Bool.false_or, Bool.true_or, idsL, ids, madeV, shareV, shareVs, adoptV, adoptVs, ownOnly, ownOnlyL, Bool.true_and, Bool.and_true, Bool.and_false, Bool.false_and, List.isEmpty_nil, List.isEmpty_cons, giveV, giveVs, Bool.not_false, Bool.not_true, reduceCtorEq, Bool.false_eq_true, if_false, if_true, dg_length, take_dg, List.take_length, ends_n, ends_r, results, resVs, resV, giveV, giveVs, shareV, theRow, List.getElem?_cons_zero, List.getElem?_cons_succ, Option.map_some, List.take_zero, List.take_nil, List.take_succ_cons, theRow, ho, e4, t3, natO]
  | succ n =>
    have g1 := ha.get n
    have e1 := drop_get a n (by omega)
    have hv : val (a.drop n) = a.getD n 0 + 4294967296 * val (a.drop (n + 1)) := by rw [e1, val]
    obtain ⟨s1, s2, s3⟩ := div_step (n := n) hd hr rfl g1 hdd
    have hz : ((r : Nat) : Int) * 4294967296 + ((a.getD n 0 : Nat) : Int) = ((r * 4294967296 + a.getD n 0 : Nat) : Int) := by omega
    generalize hzz : r * 4294967296 + a.getD n 0 = z at *
    have hz2 : (z : Int) ≤ 18446744073709551615 := by omega
    have hzl : (z : Int) ≤ 4294967295 ∨ (IntKind.u64 = .u64 ∧ (z : Int) ≤ 18446744073709551615) := .inr ⟨rfl, hz2⟩
    have hqz := bin_quo_nat .u64 z d hd hzl rfl
    have hmod : z % d < d := Nat.mod_lt _ hd
    generalize hw : z / d = w at *
    generalize hm : z % d = m at *
    simp -implicitDefEqProofs (disch := first | omega | (apply calm_by; decide)) only [List.cons_append, List.nil_append, Ev_seq, Ev_region, Ev_skip, Ev_exit, Ev_ret, Ev_block, Ev_cond, Ev_ghost, Ev_draw_calm, GoOn_cmp, GoOn_nil, GoOn_thn, GoOn_thn_e, GoOn_thn_r, GoOn_blk, GoOn_blk_e, GoOn_blk_r, onN_n, onN_e, onN_r, Round_n, Round_e, Round_r, EvC_t, EvC_f, EvW_t, EvW_f, EvR_some, EvN_some, EvO_cons, EvO_nil, wanted, exec, put, passed, opd,
    List.length_cons, List.length_nil, Nat.zero_add, Nat.reduceAdd, List.replicate_succ, List.replicate_zero, List.set_cons_zero, List.set_cons_succ, List.getD_cons_zero, List.getD_cons_succ, Option.map_some, Option.map_none, List.map_cons, List.map_nil,
    bin_add, bin_sub, bin_mul, bin_eql, bin_neq, bin_lss, bin_leq, bin_gtr, bin_geq, bin_quo_nat, bin_rem_nat, bin_or_hi, bin_shr32, bin_shl32, lenV_slice, lenV_ref, ne_eq, not_false_eq_true, beq_true, beq_false, Bool.not_true, Bool.not_false, wrap_i64, wrap_u64, dec_t, dec_f, ite_t, ite_f, ibeq_t, ibeq_f, ibne_t, ibne_f, index_slice, index_ref, slice_slice_hi, slice_ref_hi, Int.natCast_add, Int.cast_ofNat_Int, Int.add_sub_cancel, Int.toNat_natCast, Int.toNat_natCast_add_one, Int.reduceToNat, Nat.mul_one, load_dg, shareL_dg, adoptV, if_true, if_false, ite_true, ite_false, Bool.true_eq, Bool.false_eq_true, beq_self_eq_true, reduceCtorEq, reduceIte, Nat.reduceMul, Nat.reduceSub, Nat.reduceLT, Nat.reduceLeDiff, Nat.reduceEqDiff, hz, hqz, wrap_u32, hst, norm, keepLive, compact, List.range_zero, List.range_succ, List.nil_append, List.cons_append, List.append_nil, List.contains_cons, List.contains_nil, Bool.or_false, Bool.or_true, Bool.false_or, Bool.true_or, Nat.reduceBEq, beq_self_eq_true, idsL, ids, addId, List.filter_cons, List.filter_nil, decide_true, decide_false, List.map_cons, List.map_nil, maskD, within, withinL, mapD, mapL, subRows, getRow, List.idxOf_cons, List.idxOf_nil, cond_true, cond_false, Bool.and_true, Bool.true_and, if_true, if_false, Bool.false_eq_true, List.length_cons, List.length_nil, Nat.zero_add, Nat.reduceAdd, Nat.reduceLT, List.getD_cons_zero, List.getD_cons_succ, List.set_cons_zero, List.set_cons_succ, reduceIte, reduceCtorEq]
    refine ⟨n, by omega, out.set n w, m, by omega, by simp [ho], hdo.set _ _ s3, by rw [hv, s1], ?_, ?_⟩
    · rw [drop_get _ n (by simp; omega), val, getD_set_self (by omega), drop_set_ne (by omega), hv, s2, hq]
    · rw [hm]

theorem clone_ok (h : Has1 T) (a : List Nat) (ha : Dig a) (hla : a.length ≤ 2 ^ 40) : callW T 18 [.slice false 1 a.length (dg a)] [] = some (natO (digs (val a)), []) := by
  refine callW_ev (h 18 (.code F.f18) rfl) rfl ?_
  simp only [F.f18, adoptVs, adoptV, List.cons_append, List.nil_append]
  have t1 := trim_shared h a ha (by omega)
  have l1 := val_len ha
  generalize digs (val a) = A at *
  have hroom : room A.length 4 = true := room_t _ _ (by omega)
  simp -implicitDefEqProofs (disch := first | omega | (apply calm_by; decide)) only [List.cons_append, List.nil_append, Ev_seq, Ev_region, Ev_skip, Ev_exit, Ev_ret, Ev_block, Ev_cond, Ev_ghost, Ev_draw_calm, GoOn_cmp, GoOn_nil, GoOn_thn, GoOn_thn_e, GoOn_thn_r, GoOn_blk, GoOn_blk_e, GoOn_blk_r, onN_n, onN_e, onN_r, Round_n, Round_e, Round_r, EvC_t, EvC_f, EvW_t, EvW_f, EvR_some, EvN_some, EvO_cons, EvO_nil, wanted, exec, put, passed, opd,
    List.length_cons, List.length_nil, Nat.zero_add, Nat.reduceAdd, List.replicate_succ, List.replicate_zero, List.set_cons_zero, List.set_cons_succ, List.getD_cons_zero, List.getD_cons_succ, Option.map_some, Option.map_none, List.map_cons, List.map_nil,
    bin_add, bin_sub, bin_mul, bin_eql, bin_neq, bin_lss, bin_leq, bin_gtr, bin_geq, bin_quo_nat, bin_rem_nat, bin_or_hi, bin_shr32, bin_shl32, lenV_slice, lenV_ref, ne_eq, not_false_eq_true, beq_true, beq_false, Bool.not_true, Bool.not_false, wrap_i64, wrap_u64, dec_t, dec_f, ite_t, ite_f, ibeq_t, ibeq_f, ibne_t, ibne_f, index_slice, index_ref, slice_slice_hi, slice_ref_hi, Int.natCast_add, Int.cast_ofNat_Int, Int.add_sub_cancel, Int.toNat_natCast, Int.toNat_natCast_add_one, Int.reduceToNat, Nat.mul_one, load_dg, shareL_dg, adoptV, if_true, if_false, ite_true, ite_false, Bool.true_eq, Bool.false_eq_true, beq_self_eq_true, reduceCtorEq, reduceIte, Nat.reduceMul, Nat.reduceSub, Nat.reduceLT, Nat.reduceLeDiff, Nat.reduceEqDiff, callV, takeArgs, takeV, lendArgs, lendV, lendVs, List.headD_cons, List.headD_nil, List.tail_cons, List.tail_nil, List.contains_cons, List.contains_nil, m_al, m_sl, m_ol, m_ll, m_la, m_ls, m_lo, Bool.or_false, Bool.or_true, Bool.false_or, Bool.true_or, idsL, ids, madeV, shareV, shareVs, adoptV, adoptVs, ownOnly, ownOnlyL, Bool.true_and, Bool.and_true, Bool.and_false, Bool.false_and, List.isEmpty_nil, List.isEmpty_cons, giveV, giveVs, Bool.not_false, Bool.not_true, reduceCtorEq, Bool.false_eq_true, if_false, if_true, t1]
  by_cases c : A.length = 0
  · have : A = [] := List.eq_nil_of_length_eq_zero c
    subst this
    simp -implicitDefEqProofs (disch := first | omega | (apply calm_by; decide)) only [List.cons_append, List.nil_append, Ev_seq, Ev_region, Ev_skip, Ev_exit, Ev_ret, Ev_block, Ev_cond, Ev_ghost, Ev_draw_calm, GoOn_cmp, GoOn_nil, GoOn_thn, GoOn_thn_e, GoOn_thn_r, GoOn_blk, GoOn_blk_e, GoOn_blk_r, onN_n, onN_e, onN_r, Round_n, Round_e, Round_r, EvC_t, EvC_f, EvW_t, EvW_f, EvR_some, EvN_some, EvO_cons, EvO_nil, wanted, exec, put, passed, opd,
    List.length_cons, List.length_nil, Nat.zero_add, Nat.reduceAdd, List.replicate_succ, List.replicate_zero, List.set_cons_zero, List.set_cons_succ, List.getD_cons_zero, List.getD_cons_succ, Option.map_some, Option.map_none, List.map_cons, List.map_nil,
    bin_add, bin_sub, bin_mul, bin_eql, bin_neq, bin_lss, bin_leq, bin_gtr, bin_geq, bin_quo_nat, bin_rem_nat, bin_or_hi, bin_shr32, bin_shl32, lenV_slice, lenV_ref, ne_eq, not_false_eq_true, beq_true, beq_false, Bool.not_true, Bool.not_false, wrap_i64, wrap_u64, dec_t, dec_f, ite_t, ite_f, ibeq_t, ibeq_f, ibne_t, ibne_f, index_slice, index_ref, slice_slice_hi, slice_ref_hi, Int.natCast_add, Int.cast_ofNat_Int, Int.add_sub_cancel, Int.toNat_natCast, Int.toNat_natCast_add_one, Int.reduceToNat, Nat.mul_one, load_dg, shareL_dg, adoptV, if_true, if_false, ite_true, ite_false, Bool.true_eq, Bool.false_eq_true, beq_self_eq_true, reduceCtorEq, reduceIte, Nat.reduceMul, Nat.reduceSub, Nat.reduceLT, Nat.reduceLeDiff, Nat.reduceEqDiff, dg_length, take_dg, List.take_length, ends_n, ends_r, results, resVs, resV, giveV, giveVs, shareV, theRow, List.getElem?_cons_zero, List.getElem?_cons_succ, Option.map_some, List.take_zero, List.take_nil, List.take_succ_cons]
    rfl
  · simp -implicitDefEqProofs (disch := first | omega | (apply calm_by; decide)) only [List.cons_append, List.nil_append, Ev_seq, Ev_region, Ev_skip, Ev_exit, Ev_ret, Ev_block, Ev_cond, Ev_ghost, Ev_draw_calm, GoOn_cmp, GoOn_nil, GoOn_thn, GoOn_thn_e, GoOn_thn_r, GoOn_blk, GoOn_blk_e, GoOn_blk_r, onN_n, onN_e, onN_r, Round_n, Round_e, Round_r, EvC_t, EvC_f, EvW_t, EvW_f, EvR_some, EvN_some, EvO_cons, EvO_nil, wanted, exec, put, passed, opd,
    List.length_cons, List.length_nil, Nat.zero_add, Nat.reduceAdd, List.replicate_succ, List.replicate_zero, List.set_cons_zero, List.set_cons_succ, List.getD_cons_zero, List.getD_cons_succ, Option.map_some, Option.map_none, List.map_cons, List.map_nil,
    bin_add, bin_sub, bin_mul, bin_eql, bin_neq, bin_lss, bin_leq, bin_gtr, bin_geq, bin_quo_nat, bin_rem_nat, bin_or_hi, bin_shr32, bin_shl32, lenV_slice, lenV_ref, ne_eq, not_false_eq_true, beq_true, beq_false, Bool.not_true, Bool.not_false, wrap_i64, wrap_u64, dec_t, dec_f, ite_t, ite_f, ibeq_t, ibeq_f, ibne_t, ibne_f, index_slice, index_ref, slice_slice_hi, slice_ref_hi, Int.natCast_add, Int.cast_ofNat_Int, Int.add_sub_cancel, Int.toNat_natCast, Int.toNat_natCast_add_one, Int.reduceToNat, Nat.mul_one, load_dg, shareL_dg, adoptV, if_true, if_false, ite_true, ite_false, Bool.true_eq, Bool.false_eq_true, beq_self_eq_true, reduceCtorEq, reduceIte, Nat.reduceMul, Nat.reduceSub, Nat.reduceLT, Nat.reduceLeDiff, Nat.reduceEqDiff, dg_length, take_dg, List.take_length, ends_n, ends_r, results, resVs, resV, giveV, giveVs, shareV, theRow, List.getElem?_cons_zero, List.getElem?_cons_succ, Option.map_some, List.take_zero, List.take_nil, List.take_succ_cons, appendV, appendSrc, hroom, and_self, theRow, callV, takeArgs, takeV, lendArgs, lendV, lendVs, List.headD_cons, List.headD_nil, List.tail_cons, List.tail_nil, List.contains_cons, List.contains_nil, m_al, m_sl, m_ol, m_ll, m_la, m_ls, m_lo, Bool.or_false, Bool.or_true, Bool.false_or, Bool.true_or, idsL, ids, madeV, shareV, shareVs, adoptV, adoptVs, ownOnly, ownOnlyL, Bool.true_and, Bool.and_true, Bool.and_false, Bool.false_and, List.isEmpty_nil, List.isEmpty_cons, giveV, giveVs, Bool.not_false, Bool.not_true, reduceCtorEq, Bool.false_eq_true, if_false, if_true, natO]

theorem uint64_ok (h : Has1 T) (a : List Nat) (ha : Dig a) (hla : a.length ≤ 2 ^ 40) (hv : val a < 18446744073709551616) :
    callW T 21 [.slice false 1 a.length (dg a)] [] = some (.tup [.int .u64 (val a : Nat), .bool true], []) := by
  refine callW_ev (h 21 (.code F.f21) rfl) rfl ?_
  simp only [F.f21, adoptVs, adoptV, List.cons_append, List.nil_append]
  have t1 := trim_shared h a ha (by omega)
  have l1 : (digs (val a)).length ≤ 2 := digs_length_le hv
  have d1 := dig_digs (val a)
  have v1 := val_digs (val a)
  generalize digs (val a) = A at *
  simp -implicitDefEqProofs (disch := first | omega | (apply calm_by; decide)) only [List.cons_append, List.nil_append, Ev_seq, Ev_region, Ev_skip, Ev_exit, Ev_ret, Ev_block, Ev_cond, Ev_ghost, Ev_draw_calm, GoOn_cmp, GoOn_nil, GoOn_thn, GoOn_thn_e, GoOn_thn_r, GoOn_blk, GoOn_blk_e, GoOn_blk_r, onN_n, onN_e, onN_r, Round_n, Round_e, Round_r, EvC_t, EvC_f, EvW_t, EvW_f, EvR_some, EvN_some, EvO_cons, EvO_nil, wanted, exec, put, passed, opd,
    List.length_cons, List.length_nil, Nat.zero_add, Nat.reduceAdd, List.replicate_succ, List.replicate_zero, List.set_cons_zero, List.set_cons_succ, List.getD_cons_zero, List.getD_cons_succ, Option.map_some, Option.map_none, List.map_cons, List.map_nil,
    bin_add, bin_sub, bin_mul, bin_eql, bin_neq, bin_lss, bin_leq, bin_gtr, bin_geq, bin_quo_nat, bin_rem_nat, bin_or_hi, bin_shr32, bin_shl32, lenV_slice, lenV_ref, ne_eq, not_false_eq_true, beq_true, beq_false, Bool.not_true, Bool.not_false, wrap_i64, wrap_u64, dec_t, dec_f, ite_t, ite_f, ibeq_t, ibeq_f, ibne_t, ibne_f, index_slice, index_ref, slice_slice_hi, slice_ref_hi, Int.natCast_add, Int.cast_ofNat_Int, Int.add_sub_cancel, Int.toNat_natCast, Int.toNat_natCast_add_one, Int.reduceToNat, Nat.mul_one, load_dg, shareL_dg, adoptV, if_true, if_false, ite_true, ite_false, Bool.true_eq, Bool.false_eq_true, beq_self_eq_true, reduceCtorEq, reduceIte, Nat.reduceMul, Nat.reduceSub, Nat.reduceLT, Nat.reduceLeDiff, Nat.reduceEqDiff, callV, takeArgs, takeV, lendArgs, lendV, lendVs, List.headD_cons, List.headD_nil, List.tail_cons, List.tail_nil, List.contains_cons, List.contains_nil, m_al, m_sl, m_ol, m_ll, m_la, m_ls, m_lo, Bool.or_false, Bool.or_true, Bool.false_or, Bool.true_or, idsL, ids, madeV, shareV, shareVs, adoptV, adoptVs, ownOnly, ownOnlyL, Bool.true_and, Bool.and_true, Bool.and_false, Bool.false_and, List.isEmpty_nil, List.isEmpty_cons, giveV, giveVs, Bool.not_false, Bool.not_true, reduceCtorEq, Bool.false_eq_true, if_false, if_true, t1]
  refine Ev_loop (fun n s => ∃ i : Nat, i + n = A.length ∧
    s = ⟨[.undef, .undef, .undef, .int .u64 (val (A.take i) : Nat), .undef, .undef, .slice false 1 A.length (dg A), .int .i64 A.length, .int .i64 i], [], [], 0⟩) A.length ⟨0, by omega, ?_⟩ ?_
  · simp only [norm, keepLive, compact, List.range_zero, List.range_succ, List.nil_append, List.cons_append, List.append_nil, List.contains_cons, List.contains_nil, Bool.or_false, Bool.or_true, Bool.false_or, Bool.true_or, Nat.reduceBEq, beq_self_eq_true, idsL, ids, addId, List.filter_cons, List.filter_nil, decide_true, decide_false, List.map_cons, List.map_nil, maskD, within, withinL, mapD, mapL, subRows, getRow, List.idxOf_cons, List.idxOf_nil, cond_true, cond_false, Bool.and_true, Bool.true_and, if_true, if_false, Bool.false_eq_true, List.length_cons, List.length_nil, Nat.zero_add, Nat.reduceAdd, Nat.reduceLT, List.getD_cons_zero, List.getD_cons_succ, List.set_cons_zero, List.set_cons_succ, reduceIte, reduceCtorEq]; rfl
  rintro n s ⟨i, hi, rfl⟩
  cases n with
  | zero =>
    have e : val (A.take i) = val a := by rw [List.take_of_length_le (by omega), v1]
    rw [e]
    simp -implicitDefEqProofs (disch := first | omega | (apply calm_by; decide)) only [List.cons_append, List.nil_append, Ev_seq, Ev_region, Ev_skip, Ev_exit, Ev_ret, Ev_block, Ev_cond, Ev_ghost, Ev_draw_calm, GoOn_cmp, GoOn_nil, GoOn_thn, GoOn_thn_e, GoOn_thn_r, GoOn_blk, GoOn_blk_e, GoOn_blk_r, onN_n, onN_e, onN_r, Round_n, Round_e, Round_r, EvC_t, EvC_f, EvW_t, EvW_f, EvR_some, EvN_some, EvO_cons, EvO_nil, wanted, exec, put, passed, opd,
    List.length_cons, List.length_nil, Nat.zero_add, Nat.reduceAdd, List.replicate_succ, List.replicate_zero, List.set_cons_zero, List.set_cons_succ, List.getD_cons_zero, List.getD_cons_succ, Option.map_some, Option.map_none, List.map_cons, List.map_nil,
    bin_add, bin_sub, bin_mul, bin_eql, bin_neq, bin_lss, bin_leq, bin_gtr, bin_geq, bin_quo_nat, bin_rem_nat, bin_or_hi, bin_shr32, bin_shl32, lenV_slice, lenV_ref, ne_eq, not_false_eq_true, beq_true, beq_false, Bool.not_true, Bool.not_false, wrap_i64, wrap_u64, dec_t, dec_f, ite_t, ite_f, ibeq_t, ibeq_f, ibne_t, ibne_f, index_slice, index_ref, slice_slice_hi, slice_ref_hi, Int.natCast_add, Int.cast_ofNat_Int, Int.add_sub_cancel, Int.toNat_natCast, Int.toNat_natCast_add_one, Int.reduceToNat, Nat.mul_one, load_dg, shareL_dg, adoptV, if_true, if_false, ite_true, ite_false, Bool.true_eq, Bool.false_eq_true, beq_self_eq_true, reduceCtorEq, reduceIte, Nat.reduceMul, Nat.reduceSub, Nat.reduceLT, Nat.reduceLeDiff, Nat.reduceEqDiff, dg_length, take_dg, List.take_length, ends_n, ends_r, results, resVs, resV, giveV, giveVs, shareV, theRow, List.getElem?_cons_zero, List.getElem?_cons_succ, Option.map_some, List.take_zero, List.take_nil, List.take_succ_cons]
  | succ n =>
    have g1 := d1.get i
    have v2 := val_take' A i
    have c : i = 0 ∨ i = 1 := by omega
    rcases c with rfl | rfl
    · simp only [List.take_zero, val, Nat.pow_zero, Nat.one_mul, Nat.zero_add] at v2
      simp -implicitDefEqProofs (disch := first | omega | (apply calm_by; decide)) only [List.cons_append, List.nil_append, Ev_seq, Ev_region, Ev_skip, Ev_exit, Ev_ret, Ev_block, Ev_cond, Ev_ghost, Ev_draw_calm, GoOn_cmp, GoOn_nil, GoOn_thn, GoOn_thn_e, GoOn_thn_r, GoOn_blk, GoOn_blk_e, GoOn_blk_r, onN_n, onN_e, onN_r, Round_n, Round_e, Round_r, EvC_t, EvC_f, EvW_t, EvW_f, EvR_some, EvN_some, EvO_cons, EvO_nil, wanted, exec, put, passed, opd,
    List.length_cons, List.length_nil, Nat.zero_add, Nat.reduceAdd, List.replicate_succ, List.replicate_zero, List.set_cons_zero, List.set_cons_succ, List.getD_cons_zero, List.getD_cons_succ, Option.map_some, Option.map_none, List.map_cons, List.map_nil,
    bin_add, bin_sub, bin_mul, bin_eql, bin_neq, bin_lss, bin_leq, bin_gtr, bin_geq, bin_quo_nat, bin_rem_nat, bin_or_hi, bin_shr32, bin_shl32, lenV_slice, lenV_ref, ne_eq, not_false_eq_true, beq_true, beq_false, Bool.not_true, Bool.not_false, wrap_i64, wrap_u64, dec_t, dec_f, ite_t, ite_f, ibeq_t, ibeq_f, ibne_t, ibne_f, index_slice, index_ref, slice_slice_hi, slice_ref_hi, Int.natCast_add, Int.cast_ofNat_Int, Int.add_sub_cancel, Int.toNat_natCast, Int.toNat_natCast_add_one, Int.reduceToNat, Nat.mul_one, load_dg, shareL_dg, adoptV, if_true, if_false, ite_true, ite_false, Bool.true_eq, Bool.false_eq_true, beq_self_eq_true, reduceCtorEq, reduceIte, Nat.reduceMul, Nat.reduceSub, Nat.reduceLT, Nat.reduceLeDiff, Nat.reduceEqDiff, norm, keepLive, compact, List.range_zero, List.range_succ, List.nil_append, List.cons_append, List.append_nil, List.contains_cons, List.contains_nil, Bool.or_false, Bool.or_true, Bool.false_or, Bool.true_or, Nat.reduceBEq, beq_self_eq_true, idsL, ids, addId, List.filter_cons, List.filter_nil, decide_true, decide_false, List.map_cons, List.map_nil, maskD, within, withinL, mapD, mapL, subRows, getRow, List.idxOf_cons, List.idxOf_nil, cond_true, cond_false, Bool.and_true, Bool.true_and, if_true, if_false, Bool.false_eq_true, List.length_cons, List.length_nil, Nat.zero_add, Nat.reduceAdd, Nat.reduceLT, List.getD_cons_zero, List.getD_cons_succ, List.set_cons_zero, List.set_cons_succ, reduceIte, reduceCtorEq, List.take_zero, val, bin_shl0, bin_or_0, Int.mul_zero]
      exact ⟨n, by omega, 1, by omega, by rw [v2, Int.zero_add]; rfl⟩
    · have v0 := val_take' A 0
      simp only [List.take_zero, val, Nat.pow_zero, Nat.one_mul, Nat.zero_add, Nat.pow_one, Nat.reduceAdd] at v2 v0
      have g0 := d1.get 0
      simp -implicitDefEqProofs (disch := first | omega | (apply calm_by; decide)) only [List.cons_append, List.nil_append, Ev_seq, Ev_region, Ev_skip, Ev_exit, Ev_ret, Ev_block, Ev_cond, Ev_ghost, Ev_draw_calm, GoOn_cmp, GoOn_nil, GoOn_thn, GoOn_thn_e, GoOn_thn_r, GoOn_blk, GoOn_blk_e, GoOn_blk_r, onN_n, onN_e, onN_r, Round_n, Round_e, Round_r, EvC_t, EvC_f, EvW_t, EvW_f, EvR_some, EvN_some, EvO_cons, EvO_nil, wanted, exec, put, passed, opd,
    List.length_cons, List.length_nil, Nat.zero_add, Nat.reduceAdd, List.replicate_succ, List.replicate_zero, List.set_cons_zero, List.set_cons_succ, List.getD_cons_zero, List.getD_cons_succ, Option.map_some, Option.map_none, List.map_cons, List.map_nil,
    bin_add, bin_sub, bin_mul, bin_eql, bin_neq, bin_lss, bin_leq, bin_gtr, bin_geq, bin_quo_nat, bin_rem_nat, bin_or_hi, bin_shr32, bin_shl32, lenV_slice, lenV_ref, ne_eq, not_false_eq_true, beq_true, beq_false, Bool.not_true, Bool.not_false, wrap_i64, wrap_u64, dec_t, dec_f, ite_t, ite_f, ibeq_t, ibeq_f, ibne_t, ibne_f, index_slice, index_ref, slice_slice_hi, slice_ref_hi, Int.natCast_add, Int.cast_ofNat_Int, Int.add_sub_cancel, Int.toNat_natCast, Int.toNat_natCast_add_one, Int.reduceToNat, Nat.mul_one, load_dg, shareL_dg, adoptV, if_true, if_false, ite_true, ite_false, Bool.true_eq, Bool.false_eq_true, beq_self_eq_true, reduceCtorEq, reduceIte, Nat.reduceMul, Nat.reduceSub, Nat.reduceLT, Nat.reduceLeDiff, Nat.reduceEqDiff, norm, keepLive, compact, List.range_zero, List.range_succ, List.nil_append, List.cons_append, List.append_nil, List.contains_cons, List.contains_nil, Bool.or_false, Bool.or_true, Bool.false_or, Bool.true_or, Nat.reduceBEq, beq_self_eq_true, idsL, ids, addId, List.filter_cons, List.filter_nil, decide_true, decide_false, List.map_cons, List.map_nil, maskD, within, withinL, mapD, mapL, subRows, getRow, List.idxOf_cons, List.idxOf_nil, cond_true, cond_false, Bool.and_true, Bool.true_and, if_true, if_false, Bool.false_eq_true, List.length_cons, List.length_nil, Nat.zero_add, Nat.reduceAdd, Nat.reduceLT, List.getD_cons_zero, List.getD_cons_succ, List.set_cons_zero, List.set_cons_succ, reduceIte, reduceCtorEq, bin_shl0, bin_or_lo, Int.mul_one, Nat.reduceAdd]
      refine ⟨n, by omega, 2, by omega, ?_⟩
      have e : ((val (A.take 1) : Nat) : Int) + ((A.getD 1 0 : Nat) : Int) * 4294967296 = ((val (A.take 2) : Nat) : Int) := by omega
      rw [e]; rfl
end
end Av
namespace Av
open Go
set_option linter.unusedSimpArgs false

/-- The number of binary digits. -/
def bl (x : Nat) : Nat := if x = 0 then 0 else x.log2 + 1
theorem bl_spec {x : Nat} (h : x ≠ 0) : 0 < bl x ∧ 2 ^ (bl x - 1) ≤ x ∧ x < 2 ^ bl x := by
  simp only [bl, h, if_false, Nat.add_sub_cancel]
  exact ⟨by omega, Nat.log2_self_le h, Nat.lt_log2_self⟩
theorem bl_unique {x n : Nat} (h0 : 0 < n) (h1 : 2 ^ (n - 1) ≤ x) (h2 : x < 2 ^ n) : bl x = n := by
  have hx : x ≠ 0 := by have : 0 < 2 ^ (n - 1) := Nat.pow_pos (by omega); omega
  obtain ⟨g0, g1, g2⟩ := bl_spec hx
  rcases Nat.lt_trichotomy (bl x) n with h | h | h
  · have : 2 ^ bl x ≤ 2 ^ (n - 1) := Nat.pow_le_pow_right (by omega) (by omega)
    omega
  · exact h
  · have : 2 ^ n ≤ 2 ^ (bl x - 1) := Nat.pow_le_pow_right (by omega) (by omega)
    omega
theorem bl_div {x k : Nat} (h : 2 ^ k ≤ x) : bl x = k + bl (x / 2 ^ k) := by
  have hp : 0 < 2 ^ k := Nat.pow_pos (by omega)
  have hx : x / 2 ^ k ≠ 0 := by have := Nat.div_pos h hp; omega
  obtain ⟨g0, g1, g2⟩ := bl_spec hx
  refine bl_unique (by omega) ?_ ?_
  · rw [show k + bl (x / 2 ^ k) - 1 = k + (bl (x / 2 ^ k) - 1) by omega, Nat.pow_add]
    have := Nat.mul_le_mul_left (2 ^ k) g1
    have h2 := Nat.mul_div_le x (2 ^ k)
    omega
  · rw [Nat.pow_add]
    have h2 := Nat.lt_mul_div_succ x hp
    have : 2 ^ k * (x / 2 ^ k + 1) ≤ 2 ^ k * 2 ^ bl (x / 2 ^ k) := Nat.mul_le_mul_left _ g2
    omega
theorem bl_le {x n : Nat} (h : x < 2 ^ n) : bl x ≤ n := by
  by_cases h0 : x = 0
  · subst h0; simp [bl]
  · obtain ⟨g0, g1, g2⟩ := bl_spec h0
    rcases Nat.lt_or_ge n (bl x) with h1 | h1
    · have : 2 ^ n ≤ 2 ^ (bl x - 1) := Nat.pow_le_pow_right (by omega) (by omega)
      omega
    · exact h1

theorem len8_all : ((List.range 256).all fun y => ([0, 1, 2, 2, 3, 3, 3, 3, 4, 4, 4, 4, 4, 4, 4, 4, 5, 5, 5, 5, 5, 5, 5, 5, 5, 5, 5, 5, 5, 5, 5, 5, 6, 6, 6, 6, 6, 6, 6, 6, 6, 6, 6, 6, 6, 6, 6, 6, 6, 6, 6, 6, 6, 6, 6, 6, 6, 6, 6, 6, 6, 6, 6, 6, 7, 7, 7, 7, 7, 7, 7, 7, 7, 7, 7, 7, 7, 7, 7, 7, 7, 7, 7, 7, 7, 7, 7, 7, 7, 7, 7, 7, 7, 7, 7, 7, 7, 7, 7, 7, 7, 7, 7, 7, 7, 7, 7, 7, 7, 7, 7, 7, 7, 7, 7, 7, 7, 7, 7, 7, 7, 7, 7, 7, 7, 7, 7, 7, 8, 8, 8, 8, 8, 8, 8, 8, 8, 8, 8, 8, 8, 8, 8, 8, 8, 8, 8, 8, 8, 8, 8, 8, 8, 8, 8, 8, 8, 8, 8, 8, 8, 8, 8, 8, 8, 8, 8, 8, 8, 8, 8, 8, 8, 8, 8, 8, 8, 8, 8, 8, 8, 8, 8, 8, 8, 8, 8, 8, 8, 8, 8, 8, 8, 8, 8, 8, 8, 8, 8, 8, 8, 8, 8, 8, 8, 8, 8, 8, 8, 8, 8, 8, 8, 8, 8, 8, 8, 8, 8, 8, 8, 8, 8, 8, 8, 8, 8, 8, 8, 8, 8, 8, 8, 8, 8, 8, 8, 8, 8, 8, 8, 8, 8, 8, 8, 8, 8, 8, 8, 8, 8, 8, 8, 8, 8, 8] : List UInt8)[y]? == some (UInt8.ofNat (bl y))) = true := by decide +kernel
theorem len8_get (y : Nat) (h : y < 256) : ([0, 1, 2, 2, 3, 3, 3, 3, 4, 4, 4, 4, 4, 4, 4, 4, 5, 5, 5, 5, 5, 5, 5, 5, 5, 5, 5, 5, 5, 5, 5, 5, 6, 6, 6, 6, 6, 6, 6, 6, 6, 6, 6, 6, 6, 6, 6, 6, 6, 6, 6, 6, 6, 6, 6, 6, 6, 6, 6, 6, 6, 6, 6, 6, 7, 7, 7, 7, 7, 7, 7, 7, 7, 7, 7, 7, 7, 7, 7, 7, 7, 7, 7, 7, 7, 7, 7, 7, 7, 7, 7, 7, 7, 7, 7, 7, 7, 7, 7, 7, 7, 7, 7, 7, 7, 7, 7, 7, 7, 7, 7, 7, 7, 7, 7, 7, 7, 7, 7, 7, 7, 7, 7, 7, 7, 7, 7, 7, 8, 8, 8, 8, 8, 8, 8, 8, 8, 8, 8, 8, 8, 8, 8, 8, 8, 8, 8, 8, 8, 8, 8, 8, 8, 8, 8, 8, 8, 8, 8, 8, 8, 8, 8, 8, 8, 8, 8, 8, 8, 8, 8, 8, 8, 8, 8, 8, 8, 8, 8, 8, 8, 8, 8, 8, 8, 8, 8, 8, 8, 8, 8, 8, 8, 8, 8, 8, 8, 8, 8, 8, 8, 8, 8, 8, 8, 8, 8, 8, 8, 8, 8, 8, 8, 8, 8, 8, 8, 8, 8, 8, 8, 8, 8, 8, 8, 8, 8, 8, 8, 8, 8, 8, 8, 8, 8, 8, 8, 8, 8, 8, 8, 8, 8, 8, 8, 8, 8, 8, 8, 8, 8, 8, 8, 8, 8, 8] : List UInt8)[y]? = some (UInt8.ofNat (bl y)) := by
  exact beq_iff_eq.1 (List.all_eq_true.1 len8_all y (List.mem_range.2 h))

section
variable {T : Nat → Option Fun}

set_option maxRecDepth 4000 in
theorem len32_ok (h : Has1 T) (x : Nat) (hx : x < 4294967296) : callW T 8 [.int .u32 x] [] = some (.int .i64 (bl x : Nat), []) := by
  refine callW_ev (h 8 (.code F.f8) rfl) rfl ?_
  simp only [F.f8, adoptVs, adoptV, List.cons_append, List.nil_append]
  have fin : ∀ (y : Nat), y < 256 → (UInt8.ofNat (bl y)).toNat = bl y ∧ bl y ≤ 8 := fun y h1 => by
    have := bl_le (n := 8) (by omega : y < 2 ^ 8)
    exact ⟨by rw [UInt8.toNat_ofNat']; omega, this⟩
  by_cases c1 : x < 65536
  · by_cases c2 : x < 256
    · obtain ⟨q1, q2⟩ := fin x c2
      have q3 := len8_get x c2
      simp -implicitDefEqProofs (disch := first | omega | (apply calm_by; decide)) only [List.cons_append, List.nil_append, Ev_seq, Ev_region, Ev_skip, Ev_exit, Ev_ret, Ev_block, Ev_cond, Ev_ghost, Ev_draw_calm, GoOn_cmp, GoOn_nil, GoOn_thn, GoOn_thn_e, GoOn_thn_r, GoOn_blk, GoOn_blk_e, GoOn_blk_r, onN_n, onN_e, onN_r, Round_n, Round_e, Round_r, EvC_t, EvC_f, EvW_t, EvW_f, EvR_some, EvN_some, EvO_cons, EvO_nil, wanted, exec, put, passed, opd,
    List.length_cons, List.length_nil, Nat.zero_add, Nat.reduceAdd, List.replicate_succ, List.replicate_zero, List.set_cons_zero, List.set_cons_succ, List.getD_cons_zero, List.getD_cons_succ, Option.map_some, Option.map_none, List.map_cons, List.map_nil,
    bin_add, bin_sub, bin_mul, bin_eql, bin_neq, bin_lss, bin_leq, bin_gtr, bin_geq, bin_quo_nat, bin_rem_nat, bin_or_hi, bin_shr32, bin_shl32, lenV_slice, lenV_ref, ne_eq, not_false_eq_true, beq_true, beq_false, Bool.not_true, Bool.not_false, wrap_i64, wrap_u64, dec_t, dec_f, ite_t, ite_f, ibeq_t, ibeq_f, ibne_t, ibne_f, index_slice, index_ref, slice_slice_hi, slice_ref_hi, Int.natCast_add, Int.cast_ofNat_Int, Int.add_sub_cancel, Int.toNat_natCast, Int.toNat_natCast_add_one, Int.reduceToNat, Nat.mul_one, load_dg, shareL_dg, adoptV, if_true, if_false, ite_true, ite_false, Bool.true_eq, Bool.false_eq_true, beq_self_eq_true, reduceCtorEq, reduceIte, Nat.reduceMul, Nat.reduceSub, Nat.reduceLT, Nat.reduceLeDiff, Nat.reduceEqDiff, dg_length, take_dg, List.take_length, ends_n, ends_r, results, resVs, resV, giveV, giveVs, shareV, theRow, List.getElem?_cons_zero, List.getElem?_cons_succ, Option.map_some, List.take_zero, List.take_nil, List.take_succ_cons, wrap_u8, q3, q1]
      simp
    · have e2 : ((x : Int) / 256) = ((x / 256 : Nat) : Int) := by omega
      have b1 : bl x = 8 + bl (x / 256) := bl_div (k := 8) (by omega)
      obtain ⟨q1, q2⟩ := fin (x / 256) (by omega)
      have q3 := len8_get (x / 256) (by omega)
      generalize x / 256 = y at *
      simp -implicitDefEqProofs (disch := first | omega | (apply calm_by; decide)) only [List.cons_append, List.nil_append, Ev_seq, Ev_region, Ev_skip, Ev_exit, Ev_ret, Ev_block, Ev_cond, Ev_ghost, Ev_draw_calm, GoOn_cmp, GoOn_nil, GoOn_thn, GoOn_thn_e, GoOn_thn_r, GoOn_blk, GoOn_blk_e, GoOn_blk_r, onN_n, onN_e, onN_r, Round_n, Round_e, Round_r, EvC_t, EvC_f, EvW_t, EvW_f, EvR_some, EvN_some, EvO_cons, EvO_nil, wanted, exec, put, passed, opd,
    List.length_cons, List.length_nil, Nat.zero_add, Nat.reduceAdd, List.replicate_succ, List.replicate_zero, List.set_cons_zero, List.set_cons_succ, List.getD_cons_zero, List.getD_cons_succ, Option.map_some, Option.map_none, List.map_cons, List.map_nil,
    bin_add, bin_sub, bin_mul, bin_eql, bin_neq, bin_lss, bin_leq, bin_gtr, bin_geq, bin_quo_nat, bin_rem_nat, bin_or_hi, bin_shr32, bin_shl32, lenV_slice, lenV_ref, ne_eq, not_false_eq_true, beq_true, beq_false, Bool.not_true, Bool.not_false, wrap_i64, wrap_u64, dec_t, dec_f, ite_t, ite_f, ibeq_t, ibeq_f, ibne_t, ibne_f, index_slice, index_ref, slice_slice_hi, slice_ref_hi, Int.natCast_add, Int.cast_ofNat_Int, Int.add_sub_cancel, Int.toNat_natCast, Int.toNat_natCast_add_one, Int.reduceToNat, Nat.mul_one, load_dg, shareL_dg, adoptV, if_true, if_false, ite_true, ite_false, Bool.true_eq, Bool.false_eq_true, beq_self_eq_true, reduceCtorEq, reduceIte, Nat.reduceMul, Nat.reduceSub, Nat.reduceLT, Nat.reduceLeDiff, Nat.reduceEqDiff, bin_shr8, dg_length, take_dg, List.take_length, ends_n, ends_r, results, resVs, resV, giveV, giveVs, shareV, theRow, List.getElem?_cons_zero, List.getElem?_cons_succ, Option.map_some, List.take_zero, List.take_nil, List.take_succ_cons, wrap_u8, e2, q3, q1]
      rw [b1]; simp
  · have e1 : ((x : Int) / 65536) = ((x / 65536 : Nat) : Int) := by omega
    have b0 : bl x = 16 + bl (x / 65536) := bl_div (k := 16) (by omega)
    have hz : x / 65536 < 65536 := by omega
    generalize x / 65536 = z at *
    by_cases c2 : z < 256
    · obtain ⟨q1, q2⟩ := fin z c2
      have q3 := len8_get z c2
      simp -implicitDefEqProofs (disch := first | omega | (apply calm_by; decide)) only [List.cons_append, List.nil_append, Ev_seq, Ev_region, Ev_skip, Ev_exit, Ev_ret, Ev_block, Ev_cond, Ev_ghost, Ev_draw_calm, GoOn_cmp, GoOn_nil, GoOn_thn, GoOn_thn_e, GoOn_thn_r, GoOn_blk, GoOn_blk_e, GoOn_blk_r, onN_n, onN_e, onN_r, Round_n, Round_e, Round_r, EvC_t, EvC_f, EvW_t, EvW_f, EvR_some, EvN_some, EvO_cons, EvO_nil, wanted, exec, put, passed, opd,
    List.length_cons, List.length_nil, Nat.zero_add, Nat.reduceAdd, List.replicate_succ, List.replicate_zero, List.set_cons_zero, List.set_cons_succ, List.getD_cons_zero, List.getD_cons_succ, Option.map_some, Option.map_none, List.map_cons, List.map_nil,
    bin_add, bin_sub, bin_mul, bin_eql, bin_neq, bin_lss, bin_leq, bin_gtr, bin_geq, bin_quo_nat, bin_rem_nat, bin_or_hi, bin_shr32, bin_shl32, lenV_slice, lenV_ref, ne_eq, not_false_eq_true, beq_true, beq_false, Bool.not_true, Bool.not_false, wrap_i64, wrap_u64, dec_t, dec_f, ite_t, ite_f, ibeq_t, ibeq_f, ibne_t, ibne_f, index_slice, index_ref, slice_slice_hi, slice_ref_hi, Int.natCast_add, Int.cast_ofNat_Int, Int.add_sub_cancel, Int.toNat_natCast, Int.toNat_natCast_add_one, Int.reduceToNat, Nat.mul_one, load_dg, shareL_dg, adoptV, if_true, if_false, ite_true, ite_false, Bool.true_eq, Bool.false_eq_true, beq_self_eq_true, reduceCtorEq, reduceIte, Nat.reduceMul, Nat.reduceSub, Nat.reduceLT, Nat.reduceLeDiff, Nat.reduceEqDiff, bin_shr16, dg_length, take_dg, List.take_length, ends_n, ends_r, results, resVs, resV, giveV, giveVs, shareV, theRow, List.getElem?_cons_zero, List.getElem?_cons_succ, Option.map_some, List.take_zero, List.take_nil, List.take_succ_cons, wrap_u8, e1, q3, q1]
      rw [b0]; simp
    · have e2 : ((z : Int) / 256) = ((z / 256 : Nat) : Int) := by omega
      have b1 : bl z = 8 + bl (z / 256) := bl_div (k := 8) (by omega)
      obtain ⟨q1, q2⟩ := fin (z / 256) (by omega)
      have q3 := len8_get (z / 256) (by omega)
      generalize z / 256 = y at *
      simp -implicitDefEqProofs (disch := first | omega | (apply calm_by; decide)) only [List.cons_append, List.nil_append, Ev_seq, Ev_region, Ev_skip, Ev_exit, Ev_ret, Ev_block, Ev_cond, Ev_ghost, Ev_draw_calm, GoOn_cmp, GoOn_nil, GoOn_thn, GoOn_thn_e, GoOn_thn_r, GoOn_blk, GoOn_blk_e, GoOn_blk_r, onN_n, onN_e, onN_r, Round_n, Round_e, Round_r, EvC_t, EvC_f, EvW_t, EvW_f, EvR_some, EvN_some, EvO_cons, EvO_nil, wanted, exec, put, passed, opd,
    List.length_cons, List.length_nil, Nat.zero_add, Nat.reduceAdd, List.replicate_succ, List.replicate_zero, List.set_cons_zero, List.set_cons_succ, List.getD_cons_zero, List.getD_cons_succ, Option.map_some, Option.map_none, List.map_cons, List.map_nil,
    bin_add, bin_sub, bin_mul, bin_eql, bin_neq, bin_lss, bin_leq, bin_gtr, bin_geq, bin_quo_nat, bin_rem_nat, bin_or_hi, bin_shr32, bin_shl32, lenV_slice, lenV_ref, ne_eq, not_false_eq_true, beq_true, beq_false, Bool.not_true, Bool.not_false, wrap_i64, wrap_u64, dec_t, dec_f, ite_t, ite_f, ibeq_t, ibeq_f, ibne_t, ibne_f, index_slice, index_ref, slice_slice_hi, slice_ref_hi, Int.natCast_add, Int.cast_ofNat_Int, Int.add_sub_cancel, Int.toNat_natCast, Int.toNat_natCast_add_one, Int.reduceToNat, Nat.mul_one, load_dg, shareL_dg, adoptV, if_true, if_false, ite_true, ite_false, Bool.true_eq, Bool.false_eq_true, beq_self_eq_true, reduceCtorEq, reduceIte, Nat.reduceMul, Nat.reduceSub, Nat.reduceLT, Nat.reduceLeDiff, Nat.reduceEqDiff, bin_shr8, bin_shr16, dg_length, take_dg, List.take_length, ends_n, ends_r, results, resVs, resV, giveV, giveVs, shareV, theRow, List.getElem?_cons_zero, List.getElem?_cons_succ, Option.map_some, List.take_zero, List.take_nil, List.take_succ_cons, wrap_u8, e1, e2, q3, q1]
      rw [b0, b1]; simp; omega

theorem lead_ok (h : Has1 T) (x : Nat) (hx : x < 4294967296) : callW T 26 [.int .u32 x] [] = some (.int .i64 (32 - bl x : Nat), []) := by
  refine callW_ev (h 26 (.code F.f26) rfl) rfl ?_
  simp only [F.f26, adoptVs, adoptV, List.cons_append, List.nil_append]
  have t1 := len32_ok h x hx
  have b : bl x ≤ 32 := bl_le (n := 32) (by omega)
  simp -implicitDefEqProofs (disch := first | omega | (apply calm_by; decide)) only [List.cons_append, List.nil_append, Ev_seq, Ev_region, Ev_skip, Ev_exit, Ev_ret, Ev_block, Ev_cond, Ev_ghost, Ev_draw_calm, GoOn_cmp, GoOn_nil, GoOn_thn, GoOn_thn_e, GoOn_thn_r, GoOn_blk, GoOn_blk_e, GoOn_blk_r, onN_n, onN_e, onN_r, Round_n, Round_e, Round_r, EvC_t, EvC_f, EvW_t, EvW_f, EvR_some, EvN_some, EvO_cons, EvO_nil, wanted, exec, put, passed, opd,
    List.length_cons, List.length_nil, Nat.zero_add, Nat.reduceAdd, List.replicate_succ, List.replicate_zero, List.set_cons_zero, List.set_cons_succ, List.getD_cons_zero, List.getD_cons_succ, Option.map_some, Option.map_none, List.map_cons, List.map_nil,
    bin_add, bin_sub, bin_mul, bin_eql, bin_neq, bin_lss, bin_leq, bin_gtr, bin_geq, bin_quo_nat, bin_rem_nat, bin_or_hi, bin_shr32, bin_shl32, lenV_slice, lenV_ref, ne_eq, not_false_eq_true, beq_true, beq_false, Bool.not_true, Bool.not_false, wrap_i64, wrap_u64, dec_t, dec_f, ite_t, ite_f, ibeq_t, ibeq_f, ibne_t, ibne_f, index_slice, index_ref, slice_slice_hi, slice_ref_hi, Int.natCast_add, Int.cast_ofNat_Int, Int.add_sub_cancel, Int.toNat_natCast, Int.toNat_natCast_add_one, Int.reduceToNat, Nat.mul_one, load_dg, shareL_dg, adoptV, if_true, if_false, ite_true, ite_false, Bool.true_eq, Bool.false_eq_true, beq_self_eq_true, reduceCtorEq, reduceIte, Nat.reduceMul, Nat.reduceSub, Nat.reduceLT, Nat.reduceLeDiff, Nat.reduceEqDiff, callV, takeArgs, takeV, lendArgs, lendV, lendVs, List.headD_cons, List.headD_nil, List.tail_cons, List.tail_nil, List.contains_cons, List.contains_nil, m_al, m_sl, m_ol, m_ll, m_la, m_ls, m_lo, Bool.or_false, Bool.or_true, Bool.false_or, Bool.true_or, idsL, ids, madeV, shareV, shareVs, adoptV, adoptVs, ownOnly, ownOnlyL, Bool.true_and, Bool.and_true, Bool.and_false, Bool.false_and, List.isEmpty_nil, List.isEmpty_cons, giveV, giveVs, Bool.not_false, Bool.not_true, reduceCtorEq, Bool.false_eq_true, if_false, if_true, t1, dg_length, take_dg, List.take_length, ends_n, ends_r, results, resVs, resV, giveV, giveVs, shareV, theRow, List.getElem?_cons_zero, List.getElem?_cons_succ, Option.map_some, List.take_zero, List.take_nil, List.take_succ_cons]
  have : ((32 : Int) - (bl x : Nat)) = ((32 - bl x : Nat) : Int) := by omega
  rw [this]

/-- Shifted up by s digits, the highest bit is set. -/
theorem shift_norm {x : Nat} (h : x ≠ 0) (hx : x < 4294967296) : 32 - bl x < 32 ∧ 2147483648 ≤ x * 2 ^ (32 - bl x) ∧ x * 2 ^ (32 - bl x) < 4294967296 := by
  obtain ⟨g0, g1, g2⟩ := bl_spec h
  have b : bl x ≤ 32 := bl_le (n := 32) (by omega)
  have hp : 0 < 2 ^ (32 - bl x) := Nat.pow_pos (by omega)
  refine ⟨by omega, ?_, ?_⟩
  · have := Nat.mul_le_mul_right (2 ^ (32 - bl x)) g1
    rw [← Nat.pow_add, show bl x - 1 + (32 - bl x) = 31 by omega] at this
    exact this
  · have := Nat.mul_lt_mul_of_pos_right g2 hp
    rw [← Nat.pow_add, show bl x + (32 - bl x) = 32 by omega] at this
    exact this

theorem or_low (c q p : Nat) (b : Nat) (hp : p = 2 ^ b) (hc : c < p) (h : c + q * p ≤ 18446744073709551615) : bin .or (.int .u64 (c : Nat)) (.int .u64 (q * p : Nat)) = some (.int .u64 ((c + q * p : Nat) : Int)) := by
  simp only [bin, intBin, if_true]
  have e1 : (BitVec.ofInt 64 ((c : Nat) : Int) ||| BitVec.ofInt 64 ((q * p : Nat) : Int)).toNat = c + q * p := by
    rw [BitVec.toNat_or, BitVec.toNat_ofInt, BitVec.toNat_ofInt]
    have q1 : (((c : Nat) : Int) % ((2 ^ 64 : Nat) : Int)).toNat = c := by omega
    have q2 : (((q * p : Nat) : Int) % ((2 ^ 64 : Nat) : Int)).toNat = q * p := by
      generalize q * p = r at *
      omega
    rw [q1, q2, Nat.or_comm]
    have := Nat.two_pow_add_eq_or_of_lt (i := b) (b := c) (by omega) q
    rw [← hp, Nat.mul_comm p q] at this
    rw [← this, Nat.add_comm]
  show some (D.int .u64 (IntKind.u64.wrap ((BitVec.ofInt 64 ((c : Nat) : Int) ||| BitVec.ofInt 64 ((q * p : Nat) : Int)).toNat : Nat))) = _
  rw [e1, wrap_u64' _ (by omega)]

theorem shl_by (x s p : Nat) (hp : p = 2 ^ s) (hs : s < 32) (h : x * p ≤ 18446744073709551615) : bin .shl (.int .u64 x) (.int .u64 s) = some (.int .u64 ((x * p : Nat) : Int)) := by
  have e : (2 : Int) ^ (min (Int.toNat (s : Int)) IntKind.u64.bits) = ((p : Nat) : Int) := by
    rw [Int.toNat_natCast, hp, show min s IntKind.u64.bits = s from Nat.min_eq_left (by simp [IntKind.bits]; omega)]
    simp
  rw [bin_shl _ _ _ _ (by omega), e, ← Int.natCast_mul, wrap_u64' _ (by omega)]

set_option maxHeartbeats 1000000 in
/-- 'shiftLeft': a times 2^s in n digits, if it fits. -/
theorem shiftLeft_ok (h : Has1 T) (a : List Nat) (s n : Nat) (ha : Dig a) (hla : a.length ≤ 2 ^ 40) (hs : s < 32) (hn : n ≤ 2 ^ 40) (hfit : val a * 2 ^ s < 4294967296 ^ n) (hna : a.length ≤ n) :
    callW T 27 [.slice false 1 a.length (dg a), .int .u64 s, .int .i64 n] [] = some (.slice true 1 n (dg (digsN n (val a * 2 ^ s))), []) := by
  refine callW_ev (h 27 (.code F.f27) rfl) rfl ?_
  simp only [F.f27, adoptVs, adoptV, List.cons_append, List.nil_append]
  have hroom : room n 4 = true := room_t _ _ (by omega)
  have hp1 : 0 < 2 ^ s := Nat.pow_pos (by omega)
  have hp2 : 2 ^ s ≤ 2147483648 := Nat.pow_le_pow_right (n := 2) (by omega) (show s ≤ 31 by omega)
  have hp : ∃ p, p = 2 ^ s := ⟨_, rfl⟩
  obtain ⟨p, hp⟩ := hp
  rw [← hp] at hp1 hp2 hfit ⊢
  simp -implicitDefEqProofs (disch := first | omega | (apply calm_by; decide)) only [List.cons_append, List.nil_append, Ev_seq, Ev_region, Ev_skip, Ev_exit, Ev_ret, Ev_block, Ev_cond, Ev_ghost, Ev_draw_calm, GoOn_cmp, GoOn_nil, GoOn_thn, GoOn_thn_e, GoOn_thn_r, GoOn_blk, GoOn_blk_e, GoOn_blk_r, onN_n, onN_e, onN_r, Round_n, Round_e, Round_r, EvC_t, EvC_f, EvW_t, EvW_f, EvR_some, EvN_some, EvO_cons, EvO_nil, wanted, exec, put, passed, opd,
    List.length_cons, List.length_nil, Nat.zero_add, Nat.reduceAdd, List.replicate_succ, List.replicate_zero, List.set_cons_zero, List.set_cons_succ, List.getD_cons_zero, List.getD_cons_succ, Option.map_some, Option.map_none, List.map_cons, List.map_nil,
    bin_add, bin_sub, bin_mul, bin_eql, bin_neq, bin_lss, bin_leq, bin_gtr, bin_geq, bin_quo_nat, bin_rem_nat, bin_or_hi, bin_shr32, bin_shl32, lenV_slice, lenV_ref, ne_eq, not_false_eq_true, beq_true, beq_false, Bool.not_true, Bool.not_false, wrap_i64, wrap_u64, dec_t, dec_f, ite_t, ite_f, ibeq_t, ibeq_f, ibne_t, ibne_f, index_slice, index_ref, slice_slice_hi, slice_ref_hi, Int.natCast_add, Int.cast_ofNat_Int, Int.add_sub_cancel, Int.toNat_natCast, Int.toNat_natCast_add_one, Int.reduceToNat, Nat.mul_one, load_dg, shareL_dg, adoptV, if_true, if_false, ite_true, ite_false, Bool.true_eq, Bool.false_eq_true, beq_self_eq_true, reduceCtorEq, reduceIte, Nat.reduceMul, Nat.reduceSub, Nat.reduceLT, Nat.reduceLeDiff, Nat.reduceEqDiff, hroom, zeros_u32, and_true, callV, takeArgs, takeV, lendArgs, lendV, lendVs, List.headD_cons, List.headD_nil, List.tail_cons, List.tail_nil, List.contains_cons, List.contains_nil, m_al, m_sl, m_ol, m_ll, m_la, m_ls, m_lo, Bool.or_false, Bool.or_true, Bool.false_or, Bool.true_or, idsL, ids, madeV, shareV, shareVs, adoptV, adoptVs, ownOnly, ownOnlyL, Bool.true_and, Bool.and_true, Bool.and_false, Bool.false_and, List.isEmpty_nil, List.isEmpty_cons, giveV, giveVs, Bool.not_false, Bool.not_true, reduceCtorEq, Bool.false_eq_true, if_false, if_true]
  refine Ev_loop (fun m st => ∃ (i c : Nat) (out : List Nat), i + m = n ∧ out.length = n ∧ Dig out ∧ c < p ∧ val (out.take i) + 4294967296 ^ i * c = val (a.take i) * p ∧
    st = ⟨[.slice false 1 a.length (dg a), .int .u64 s, .undef, .undef, .ref 0 [] 0 0 n 1, .int .u64 c, .undef, .int .i64 n, .int .i64 i], [], [some ⟨dg out, false, 0, 0⟩], 0⟩)
    n ⟨0, 0, List.replicate n 0, by omega, by simp, fun z hz => by rw [List.eq_of_mem_replicate hz]; omega, hp1, by simp [val], ?_⟩ ?_
  · simp only [norm, keepLive, compact, List.range_zero, List.range_succ, List.nil_append, List.cons_append, List.append_nil, List.contains_cons, List.contains_nil, Bool.or_false, Bool.or_true, Bool.false_or, Bool.true_or, Nat.reduceBEq, beq_self_eq_true, idsL, ids, addId, List.filter_cons, List.filter_nil, decide_true, decide_false, List.map_cons, List.map_nil, maskD, within, withinL, mapD, mapL, subRows, getRow, List.idxOf_cons, List.idxOf_nil, cond_true, cond_false, Bool.and_true, Bool.true_and, if_true, if_false, Bool.false_eq_true, List.length_cons, List.length_nil, Nat.zero_add, Nat.reduceAdd, Nat.reduceLT, List.getD_cons_zero, List.getD_cons_succ, List.set_cons_zero, List.set_cons_succ, reduceIte, reduceCtorEq]; rfl
  rintro m st ⟨i, c, out, hi, ho, hdo, hc, hval, rfl⟩
  have hst : ∀ (i : Nat) (z : Int), i < n → 0 ≤ z → storeV [some ⟨dg out, false, 0, 0⟩] true 1 (.addr 0 [] 0 i) (.int .u32 z) = some [some ⟨dg (out.set i z.toNat), false, 0, 0⟩] := fun i z h1 h2 => store_dg _ 0 0 i out z rfl (by omega) h2
  cases m with
  | zero =>
    have e : out = digsN n (val a * p) := by
      have e2 : i = n := by omega
      subst e2
      rw [List.take_of_length_le (by omega), List.take_of_length_le (by omega)] at hval
      have c0 : c = 0 := by
        rcases Nat.eq_zero_or_pos c with h | h
        · exact h
        · have := Nat.mul_le_mul_left (4294967296 ^ i) h
          omega
      rw [c0] at hval
      have := digsN_unique hdo
      rw [ho, show val out = val a * p by omega] at this
      exact this
    have e4 : List.take n out = out := List.take_of_length_le (by omega)
    simp -implicitDefEqProofs (disch := first | omega | (apply calm_by; decide)) only [List.cons_append, List.nil_append, Ev_seq, Ev_region, Ev_skip, Ev_exit, Ev_ret, Ev_block, Ev_cond, Ev_ghost, Ev_draw_calm, GoOn_cmp, GoOn_nil, GoOn_thn, GoOn_thn_e, GoOn_thn_r, GoOn_blk, GoOn_blk_e, GoOn_blk_r, onN_n, onN_e, onN_r, Round_n, Round_e, Round_r, EvC_t, EvC_f, EvW_t, EvW_f, EvR_some, EvN_some, EvO_cons, EvO_nil, wanted, exec, put, passed, opd,
    List.length_cons, List.length_nil, Nat.zero_add, Nat.reduceAdd, List.replicate_succ, List.replicate_zero, List.set_cons_zero, List.set_cons_succ, List.getD_cons_zero, List.getD_cons_succ, Option.map_some, Option.map_none, List.map_cons, List.map_nil,
    bin_add, bin_sub, bin_mul, bin_eql, bin_neq, bin_lss, bin_leq, bin_gtr, bin_geq, bin_quo_nat, bin_rem_nat, bin_or_hi, bin_shr32, bin_shl32, lenV_slice, lenV_ref, ne_eq, not_false_eq_true, beq_true, beq_false, Bool.not_true, Bool.not_false, wrap_i64, wrap_u64, dec_t, dec_f, ite_t, ite_f, ibeq_t, ibeq_f, ibne_t, ibne_f, index_slice, index_ref, slice_slice_hi, slice_ref_hi, Int.natCast_add, Int.cast_ofNat_Int, Int.add_sub_cancel, Int.toNat_natCast, Int.toNat_natCast_add_one, Int.reduceToNat, Nat.mul_one, load_dg, shareL_dg, adoptV, if_true, if_false, ite_true, ite_false, Bool.true_eq, Bool.false_eq_true, beq_self_eq_true, reduceCtorEq, reduceIte, Nat.reduceMul, Nat.reduceSub, Nat.reduceLT, Nat.reduceLeDiff, Nat.reduceEqDiff, callV, takeArgs, takeV, lendArgs, lendV, lendVs, List.headD_cons, List.headD_nil, List.tail_cons, List.tail_nil, List.contains_cons, List.contains_nil, m_al, m_sl, m_ol, m_ll, m_la, m_ls, m_lo, Bool.or_false, Bool.or_true, Bool.false_or, Bool.true_or, idsL, ids, madeV, shareV, shareVs, adoptV, adoptVs, ownOnly, ownOnlyL, Bool.true_and, Bool.and_true, Bool.and_false, Bool.false_and, List.isEmpty_nil, List.isEmpty_cons, giveV, giveVs, Bool.not_false, Bool.not_true, reduceCtorEq, Bool.false_eq_true, if_false, if_true, dg_length, take_dg, List.take_length, ends_n, ends_r, results, resVs, resV, giveV, giveVs, shareV, theRow, List.getElem?_cons_zero, List.getElem?_cons_succ, Option.map_some, List.take_zero, List.take_nil, List.take_succ_cons, theRow, ho, e4]
    rw [← e]
  | succ m =>
    have g1 := ha.get i
    have v1 := val_take' a i
    have fin : ∀ z : Nat, z = c + a.getD i 0 * p → ∃ m', m' < m + 1 ∧ ∃ (i' c' : Nat) (out' : List Nat), i' + m' = n ∧ out'.length = n ∧ Dig out' ∧ c' < p ∧ val (out'.take i') + 4294967296 ^ i' * c' = val (a.take i') * p ∧
        (⟨[.slice false 1 a.length (dg a), .int .u64 s, .undef, .undef, .ref 0 [] 0 0 n 1, .int .u64 ((z : Int) / 4294967296), .undef, .int .i64 n, .int .i64 ((i : Int) + 1)], [], [some ⟨dg (out.set i ((z : Int) % 4294967296).toNat), false, 0, 0⟩], 0⟩ : St) =
        ⟨[.slice false 1 a.length (dg a), .int .u64 s, .undef, .undef, .ref 0 [] 0 0 n 1, .int .u64 (c' : Nat), .undef, .int .i64 n, .int .i64 (i' : Nat)], [], [some ⟨dg out', false, 0, 0⟩], 0⟩ := fun z hz => by
      have hzb : z / 4294967296 < p := by
        rw [Nat.div_lt_iff_lt_mul (by omega)]
        have : (a.getD i 0 + 1) * p ≤ 4294967296 * p := Nat.mul_le_mul_right _ g1
        rw [Nat.add_mul] at this
        rw [Nat.mul_comm p]
        omega
      refine ⟨m, by omega, i + 1, z / 4294967296, out.set i (z % 4294967296), by omega, by simp [ho], hdo.set _ _ (by omega), hzb, ?_, ?_⟩
      · have q1 := val_set out i (z % 4294967296) (by omega)
        have q2 := carry_eq i z
        rw [v1, q1, Nat.add_mul, Nat.mul_assoc, ← hval]
        have q3 : 4294967296 ^ i * z = 4294967296 ^ i * c + 4294967296 ^ i * (a.getD i 0 * p) := by rw [hz, Nat.mul_add]
        omega
      · have q1 : ((z : Int) % 4294967296).toNat = z % 4294967296 := by omega
        rw [q1]; rfl
    by_cases cB : i < a.length
    · have hx : a.getD i 0 * p ≤ 4294967295 * 2147483648 := Nat.mul_le_mul (by omega) hp2
      have hshl := shl_by (a.getD i 0) s p hp hs (by omega)
      have hor := or_low c (a.getD i 0) p s hp hc (by omega)
      generalize hz : c + a.getD i 0 * p = z at *
      simp -implicitDefEqProofs (disch := first | omega | (apply calm_by; decide)) only [List.cons_append, List.nil_append, Ev_seq, Ev_region, Ev_skip, Ev_exit, Ev_ret, Ev_block, Ev_cond, Ev_ghost, Ev_draw_calm, GoOn_cmp, GoOn_nil, GoOn_thn, GoOn_thn_e, GoOn_thn_r, GoOn_blk, GoOn_blk_e, GoOn_blk_r, onN_n, onN_e, onN_r, Round_n, Round_e, Round_r, EvC_t, EvC_f, EvW_t, EvW_f, EvR_some, EvN_some, EvO_cons, EvO_nil, wanted, exec, put, passed, opd,
    List.length_cons, List.length_nil, Nat.zero_add, Nat.reduceAdd, List.replicate_succ, List.replicate_zero, List.set_cons_zero, List.set_cons_succ, List.getD_cons_zero, List.getD_cons_succ, Option.map_some, Option.map_none, List.map_cons, List.map_nil,
    bin_add, bin_sub, bin_mul, bin_eql, bin_neq, bin_lss, bin_leq, bin_gtr, bin_geq, bin_quo_nat, bin_rem_nat, bin_or_hi, bin_shr32, bin_shl32, lenV_slice, lenV_ref, ne_eq, not_false_eq_true, beq_true, beq_false, Bool.not_true, Bool.not_false, wrap_i64, wrap_u64, dec_t, dec_f, ite_t, ite_f, ibeq_t, ibeq_f, ibne_t, ibne_f, index_slice, index_ref, slice_slice_hi, slice_ref_hi, Int.natCast_add, Int.cast_ofNat_Int, Int.add_sub_cancel, Int.toNat_natCast, Int.toNat_natCast_add_one, Int.reduceToNat, Nat.mul_one, load_dg, shareL_dg, adoptV, if_true, if_false, ite_true, ite_false, Bool.true_eq, Bool.false_eq_true, beq_self_eq_true, reduceCtorEq, reduceIte, Nat.reduceMul, Nat.reduceSub, Nat.reduceLT, Nat.reduceLeDiff, Nat.reduceEqDiff, hshl, hor, wrap_u32_mod, hst, norm, keepLive, compact, List.range_zero, List.range_succ, List.nil_append, List.cons_append, List.append_nil, List.contains_cons, List.contains_nil, Bool.or_false, Bool.or_true, Bool.false_or, Bool.true_or, Nat.reduceBEq, beq_self_eq_true, idsL, ids, addId, List.filter_cons, List.filter_nil, decide_true, decide_false, List.map_cons, List.map_nil, maskD, within, withinL, mapD, mapL, subRows, getRow, List.idxOf_cons, List.idxOf_nil, cond_true, cond_false, Bool.and_true, Bool.true_and, if_true, if_false, Bool.false_eq_true, List.length_cons, List.length_nil, Nat.zero_add, Nat.reduceAdd, Nat.reduceLT, List.getD_cons_zero, List.getD_cons_succ, List.set_cons_zero, List.set_cons_succ, reduceIte, reduceCtorEq]
      exact fin z rfl
    · have g3 : a.getD i 0 = 0 := by simp [List.getD, List.getElem?_eq_none (Nat.le_of_not_lt cB)]
      simp -implicitDefEqProofs (disch := first | omega | (apply calm_by; decide)) only [List.cons_append, List.nil_append, Ev_seq, Ev_region, Ev_skip, Ev_exit, Ev_ret, Ev_block, Ev_cond, Ev_ghost, Ev_draw_calm, GoOn_cmp, GoOn_nil, GoOn_thn, GoOn_thn_e, GoOn_thn_r, GoOn_blk, GoOn_blk_e, GoOn_blk_r, onN_n, onN_e, onN_r, Round_n, Round_e, Round_r, EvC_t, EvC_f, EvW_t, EvW_f, EvR_some, EvN_some, EvO_cons, EvO_nil, wanted, exec, put, passed, opd,
    List.length_cons, List.length_nil, Nat.zero_add, Nat.reduceAdd, List.replicate_succ, List.replicate_zero, List.set_cons_zero, List.set_cons_succ, List.getD_cons_zero, List.getD_cons_succ, Option.map_some, Option.map_none, List.map_cons, List.map_nil,
    bin_add, bin_sub, bin_mul, bin_eql, bin_neq, bin_lss, bin_leq, bin_gtr, bin_geq, bin_quo_nat, bin_rem_nat, bin_or_hi, bin_shr32, bin_shl32, lenV_slice, lenV_ref, ne_eq, not_false_eq_true, beq_true, beq_false, Bool.not_true, Bool.not_false, wrap_i64, wrap_u64, dec_t, dec_f, ite_t, ite_f, ibeq_t, ibeq_f, ibne_t, ibne_f, index_slice, index_ref, slice_slice_hi, slice_ref_hi, Int.natCast_add, Int.cast_ofNat_Int, Int.add_sub_cancel, Int.toNat_natCast, Int.toNat_natCast_add_one, Int.reduceToNat, Nat.mul_one, load_dg, shareL_dg, adoptV, if_true, if_false, ite_true, ite_false, Bool.true_eq, Bool.false_eq_true, beq_self_eq_true, reduceCtorEq, reduceIte, Nat.reduceMul, Nat.reduceSub, Nat.reduceLT, Nat.reduceLeDiff, Nat.reduceEqDiff, wrap_u32_mod, hst, norm, keepLive, compact, List.range_zero, List.range_succ, List.nil_append, List.cons_append, List.append_nil, List.contains_cons, List.contains_nil, Bool.or_false, Bool.or_true, Bool.false_or, Bool.true_or, Nat.reduceBEq, beq_self_eq_true, idsL, ids, addId, List.filter_cons, List.filter_nil, decide_true, decide_false, List.map_cons, List.map_nil, maskD, within, withinL, mapD, mapL, subRows, getRow, List.idxOf_cons, List.idxOf_nil, cond_true, cond_false, Bool.and_true, Bool.true_and, if_true, if_false, Bool.false_eq_true, List.length_cons, List.length_nil, Nat.zero_add, Nat.reduceAdd, Nat.reduceLT, List.getD_cons_zero, List.getD_cons_succ, List.set_cons_zero, List.set_cons_succ, reduceIte, reduceCtorEq]
      exact fin c (by rw [g3]; simp)
end
end Av
namespace Av
open Go
set_option linter.unusedSimpArgs false
section
variable {T : Nat → Option Fun}

theorem win_get (P W S : List Nat) (i : Nat) (h : i < W.length) : (P ++ W ++ S).getD (P.length + i) 0 = W.getD i 0 := by
  simp only [List.getD]
  rw [List.append_assoc, List.getElem?_append_right (by omega), Nat.add_sub_cancel_left, List.getElem?_append_left h]
theorem win_set (P W S : List Nat) (i x : Nat) (h : i < W.length) : (P ++ W ++ S).set (P.length + i) x = P ++ W.set i x ++ S := by
  rw [List.append_assoc, List.set_append_right _ _ (by omega), Nat.add_sub_cancel_left, List.set_append_left _ _ h, List.append_assoc]
theorem load_win (P W S : List Nat) (j i : Nat) (hj : j = P.length) (h : i < W.length) : loadV [some ⟨dg (P ++ W ++ S), false, 0, 0⟩] false 1 (.addr 0 [] 0 (j + i)) = some (.int .u32 (W.getD i 0 : Nat)) := by
  subst hj
  rw [load_row _ 0 0 (P.length + i) (P ++ W ++ S) false 0 0 rfl (by simp; omega), win_get P W S i h]
theorem store_win (P W S : List Nat) (j i : Nat) (z : Int) (hj : j = P.length) (h : i < W.length) (hz : 0 ≤ z) : storeV [some ⟨dg (P ++ W ++ S), false, 0, 0⟩] true 1 (.addr 0 [] 0 (j + i)) (.int .u32 z) = some [some ⟨dg (P ++ W.set i z.toNat ++ S), false, 0, 0⟩] := by
  subst hj
  rw [store_dg _ 0 0 (P.length + i) (P ++ W ++ S) z rfl (by simp; omega) hz, win_set P W S i _ h]
  rfl

theorem sub_step {W W' V : List Nat} {i k b : Nat} (hW : W'.length = W.length) (hi : i < W.length) (hd : W'.drop i = W.drop i) (hb : b < 4294967296) (hk : k < 4294967296) (hV : V.getD i 0 < 4294967296) (hWi : W.getD i 0 < 4294967296)
    (h : val (W'.take i) + k * val (V.take i) = val (W.take i) + 4294967296 ^ i * b) (z lt w : Nat) (hz : z = k * V.getD i 0 + b) (hlt : lt = if W.getD i 0 < z % 4294967296 then 1 else 0) (hw : w + z % 4294967296 = W.getD i 0 + lt * 4294967296) :
    z / 4294967296 + lt < 4294967296 ∧ w < 4294967296 ∧ val ((W'.set i w).take (i + 1)) + k * val (V.take (i + 1)) = val (W.take (i + 1)) + 4294967296 ^ (i + 1) * (z / 4294967296 + lt) := by
  have hkv : k * V.getD i 0 ≤ 4294967295 * 4294967295 := Nat.mul_le_mul (by omega) (by omega)
  have c1 : z / 4294967296 + lt < 4294967296 := by
    split at hlt
    · rename_i hc; subst hlt; omega
    · subst hlt; omega
  have c2 : w < 4294967296 := by split at hlt <;> subst hlt <;> omega
  refine ⟨c1, c2, ?_⟩
  have q1 := val_set W' i w (by omega)
  have q2 := val_take' W i
  have q3 := val_take' V i
  have q4 : k * (4294967296 ^ i * V.getD i 0) = 4294967296 ^ i * (k * V.getD i 0) := Nat.mul_left_comm _ _ _
  have e : w + k * V.getD i 0 + b = W.getD i 0 + 4294967296 * (z / 4294967296 + lt) := by omega
  have q5 : 4294967296 ^ i * w + 4294967296 ^ i * (k * V.getD i 0) + 4294967296 ^ i * b = 4294967296 ^ i * W.getD i 0 + 4294967296 ^ (i + 1) * (z / 4294967296 + lt) := by
    rw [← Nat.mul_add, ← Nat.mul_add, e, Nat.mul_add, Nat.pow_succ, Nat.mul_assoc]
  rw [q1, q2, q3, Nat.mul_add, q4]
  omega

set_option maxHeartbeats 2000000 in
theorem subScaled_ok (h : Has1 T) (P W S V : List Nat) (j n k : Nat) (hj : j = P.length) (hW : W.length = n + 1) (hV : V.length = n) (dW : Dig W) (dV : Dig V) (hk : k < 4294967296) (hn : n < 2 ^ 40) (hjj : j < 2 ^ 50) :
    callW T 28 [.ref 0 [] 0 j (n + 1) 1, .slice false 1 n (dg V), .int .u64 k] [some ⟨dg (P ++ W ++ S), false, 0, 0⟩] =
      some (.bool (decide (val W < k * val V)), [some ⟨dg (P ++ digsN (n + 1) (val W + (if val W < k * val V then 4294967296 ^ (n + 1) else 0) - k * val V) ++ S), false, 0, 0⟩]) := by
  refine callW_ev (h 28 (.code F.f28) rfl) rfl ?_
  simp only [F.f28, adoptVs, adoptV, List.cons_append, List.nil_append]
  simp -implicitDefEqProofs (disch := first | omega | (apply calm_by; decide)) only [List.cons_append, List.nil_append, Ev_seq, Ev_region, Ev_skip, Ev_exit, Ev_ret, Ev_block, Ev_cond, Ev_ghost, Ev_draw_calm, GoOn_cmp, GoOn_nil, GoOn_thn, GoOn_thn_e, GoOn_thn_r, GoOn_blk, GoOn_blk_e, GoOn_blk_r, onN_n, onN_e, onN_r, Round_n, Round_e, Round_r, EvC_t, EvC_f, EvW_t, EvW_f, EvR_some, EvN_some, EvO_cons, EvO_nil, wanted, exec, put, passed, opd,
    List.length_cons, List.length_nil, Nat.zero_add, Nat.reduceAdd, List.replicate_succ, List.replicate_zero, List.set_cons_zero, List.set_cons_succ, List.getD_cons_zero, List.getD_cons_succ, Option.map_some, Option.map_none, List.map_cons, List.map_nil,
    bin_add, bin_sub, bin_mul, bin_eql, bin_neq, bin_lss, bin_leq, bin_gtr, bin_geq, bin_quo_nat, bin_rem_nat, bin_or_hi, bin_shr32, bin_shl32, lenV_slice, lenV_ref, ne_eq, not_false_eq_true, beq_true, beq_false, Bool.not_true, Bool.not_false, wrap_i64, wrap_u64, dec_t, dec_f, ite_t, ite_f, ibeq_t, ibeq_f, ibne_t, ibne_f, index_slice, index_ref, slice_slice_hi, slice_ref_hi, Int.natCast_add, Int.cast_ofNat_Int, Int.add_sub_cancel, Int.toNat_natCast, Int.toNat_natCast_add_one, Int.reduceToNat, Nat.mul_one, load_dg, shareL_dg, adoptV, if_true, if_false, ite_true, ite_false, Bool.true_eq, Bool.false_eq_true, beq_self_eq_true, reduceCtorEq, reduceIte, Nat.reduceMul, Nat.reduceSub, Nat.reduceLT, Nat.reduceLeDiff, Nat.reduceEqDiff]
  refine Ev_loop (fun m st => ∃ (i b : Nat) (W' : List Nat), i + m = n ∧ W'.length = W.length ∧ Dig W' ∧ b < 4294967296 ∧ W'.drop i = W.drop i ∧ val (W'.take i) + k * val (V.take i) = val (W.take i) + 4294967296 ^ i * b ∧
    st = ⟨[.ref 0 [] 0 j (n + 1) 1, .undef, .int .u64 k, .undef, .int .u64 b, .undef, .undef, .undef, .undef, .undef, .undef, .slice false 1 n (dg V), .int .i64 n, .int .i64 i], [], [some ⟨dg (P ++ W' ++ S), false, 0, 0⟩], 1⟩)
    n ⟨0, 0, W, by omega, rfl, dW, by omega, rfl, by simp [val], ?_⟩ ?_
  · simp only [norm, keepLive, compact, List.range_zero, List.range_succ, List.nil_append, List.cons_append, List.append_nil, List.contains_cons, List.contains_nil, Bool.or_false, Bool.or_true, Bool.false_or, Bool.true_or, Nat.reduceBEq, beq_self_eq_true, idsL, ids, addId, List.filter_cons, List.filter_nil, decide_true, decide_false, List.map_cons, List.map_nil, maskD, within, withinL, mapD, mapL, subRows, getRow, List.idxOf_cons, List.idxOf_nil, cond_true, cond_false, Bool.and_true, Bool.true_and, if_true, if_false, Bool.false_eq_true, List.length_cons, List.length_nil, Nat.zero_add, Nat.reduceAdd, Nat.reduceLT, List.getD_cons_zero, List.getD_cons_succ, List.set_cons_zero, List.set_cons_succ, reduceIte, reduceCtorEq]; rfl
  rintro m st ⟨i, b, W', hi, hl, dW', hb, hdr, hval, rfl⟩
  have hld : ∀ i, i < n + 1 → loadV [some ⟨dg (P ++ W' ++ S), false, 0, 0⟩] false 1 (.addr 0 [] 0 (j + i)) = some (.int .u32 (W'.getD i 0 : Nat)) := fun i hi => load_win P W' S j i hj (by omega)
  have hst : ∀ (i : Nat) (z : Int), i < n + 1 → 0 ≤ z → storeV [some ⟨dg (P ++ W' ++ S), false, 0, 0⟩] true 1 (.addr 0 [] 0 (j + i)) (.int .u32 z) = some [some ⟨dg (P ++ W'.set i z.toNat ++ S), false, 0, 0⟩] := fun i z h1 h2 => store_win P W' S j i z hj (by omega) h2
  have hgi : ∀ i', i ≤ i' → W'.getD i' 0 = W.getD i' 0 := fun i' hi' => by
    have := congrArg (fun l => l.getD (i' - i) 0) hdr
    simp only [List.getD, List.getElem?_drop] at this ⊢
    rw [show i + (i' - i) = i' by omega] at this
    exact this
  cases m with
  | zero =>
    have ei : i = n := by omega
    subst ei
    have g1 := dW.get i
    rw [List.take_of_length_le (show V.length ≤ i by omega)] at hval
    have v1 := val_take W i (by omega)
    rw [List.take_of_length_le (show W.length ≤ i + 1 by omega)] at v1
    have hgn := hgi i (Nat.le_refl _)
    have hlt := val_lt dW
    rw [hW] at hlt
    by_cases c : W.getD i 0 < b
    · have e1 : val (W'.set i (W.getD i 0 + 4294967296 - b)) = val W + 4294967296 ^ (i + 1) - k * val V := by
        have q1 := val_set W' i (W.getD i 0 + 4294967296 - b) (by omega)
        rw [List.take_of_length_le (by simp; omega)] at q1
        have q2 : 4294967296 ^ i * (W.getD i 0 + 4294967296 - b) + 4294967296 ^ i * b = 4294967296 ^ i * W.getD i 0 + 4294967296 ^ (i + 1) := by
          rw [← Nat.mul_add, show W.getD i 0 + 4294967296 - b + b = W.getD i 0 + 4294967296 by omega, Nat.mul_add, Nat.pow_succ]
        omega
      have c2 : val W < k * val V := by
        have q := val_lt (dW'.set i (W.getD i 0 + 4294967296 - b) (by omega))
        rw [e1] at q
        simp only [List.length_set, hl, hW] at q
        omega
      have e2 := digsN_unique (dW'.set i (W.getD i 0 + 4294967296 - b) (by omega))
      rw [e1] at e2
      simp only [List.length_set, hl, hW] at e2
      have e3 : (((W.getD i 0 : Nat) : Int) - (b : Nat)) % 4294967296 = ((W.getD i 0 + 4294967296 - b : Nat) : Int) := by omega
      rw [if_pos c2, decide_eq_true c2, ← e2]
      simp -implicitDefEqProofs (disch := first | omega | (apply calm_by; decide)) only [List.cons_append, List.nil_append, Ev_seq, Ev_region, Ev_skip, Ev_exit, Ev_ret, Ev_block, Ev_cond, Ev_ghost, Ev_draw_calm, GoOn_cmp, GoOn_nil, GoOn_thn, GoOn_thn_e, GoOn_thn_r, GoOn_blk, GoOn_blk_e, GoOn_blk_r, onN_n, onN_e, onN_r, Round_n, Round_e, Round_r, EvC_t, EvC_f, EvW_t, EvW_f, EvR_some, EvN_some, EvO_cons, EvO_nil, wanted, exec, put, passed, opd,
    List.length_cons, List.length_nil, Nat.zero_add, Nat.reduceAdd, List.replicate_succ, List.replicate_zero, List.set_cons_zero, List.set_cons_succ, List.getD_cons_zero, List.getD_cons_succ, Option.map_some, Option.map_none, List.map_cons, List.map_nil,
    bin_add, bin_sub, bin_mul, bin_eql, bin_neq, bin_lss, bin_leq, bin_gtr, bin_geq, bin_quo_nat, bin_rem_nat, bin_or_hi, bin_shr32, bin_shl32, lenV_slice, lenV_ref, ne_eq, not_false_eq_true, beq_true, beq_false, Bool.not_true, Bool.not_false, wrap_i64, wrap_u64, dec_t, dec_f, ite_t, ite_f, ibeq_t, ibeq_f, ibne_t, ibne_f, index_slice, index_ref, slice_slice_hi, slice_ref_hi, Int.natCast_add, Int.cast_ofNat_Int, Int.add_sub_cancel, Int.toNat_natCast, Int.toNat_natCast_add_one, Int.reduceToNat, Nat.mul_one, load_dg, shareL_dg, adoptV, if_true, if_false, ite_true, ite_false, Bool.true_eq, Bool.false_eq_true, beq_self_eq_true, reduceCtorEq, reduceIte, Nat.reduceMul, Nat.reduceSub, Nat.reduceLT, Nat.reduceLeDiff, Nat.reduceEqDiff, hld, hst, hgn, wrap_u32, wrap_u32_mod, e3, dg_length, take_dg, List.take_length, ends_n, ends_r, results, resVs, resV, giveV, giveVs, shareV, theRow, List.getElem?_cons_zero, List.getElem?_cons_succ, Option.map_some, List.take_zero, List.take_nil, List.take_succ_cons]
    · have e1 : val (W'.set i (W.getD i 0 - b)) + k * val V = val W := by
        have q1 := val_set W' i (W.getD i 0 - b) (by omega)
        rw [List.take_of_length_le (by simp; omega)] at q1
        have q2 : 4294967296 ^ i * (W.getD i 0 - b) + 4294967296 ^ i * b = 4294967296 ^ i * W.getD i 0 := by
          rw [← Nat.mul_add, show W.getD i 0 - b + b = W.getD i 0 by omega]
        omega
      have c2 : ¬ val W < k * val V := by omega
      have e2 := digsN_unique (dW'.set i (W.getD i 0 - b) (by omega))
      rw [show val (W'.set i (W.getD i 0 - b)) = val W + 0 - k * val V by omega] at e2
      simp only [List.length_set, hl, hW] at e2
      have e3 : (((W.getD i 0 : Nat) : Int) - (b : Nat)).toNat = W.getD i 0 - b := by omega
      rw [if_neg c2, decide_eq_false c2, ← e2]
      simp -implicitDefEqProofs (disch := first | omega | (apply calm_by; decide)) only [List.cons_append, List.nil_append, Ev_seq, Ev_region, Ev_skip, Ev_exit, Ev_ret, Ev_block, Ev_cond, Ev_ghost, Ev_draw_calm, GoOn_cmp, GoOn_nil, GoOn_thn, GoOn_thn_e, GoOn_thn_r, GoOn_blk, GoOn_blk_e, GoOn_blk_r, onN_n, onN_e, onN_r, Round_n, Round_e, Round_r, EvC_t, EvC_f, EvW_t, EvW_f, EvR_some, EvN_some, EvO_cons, EvO_nil, wanted, exec, put, passed, opd,
    List.length_cons, List.length_nil, Nat.zero_add, Nat.reduceAdd, List.replicate_succ, List.replicate_zero, List.set_cons_zero, List.set_cons_succ, List.getD_cons_zero, List.getD_cons_succ, Option.map_some, Option.map_none, List.map_cons, List.map_nil,
    bin_add, bin_sub, bin_mul, bin_eql, bin_neq, bin_lss, bin_leq, bin_gtr, bin_geq, bin_quo_nat, bin_rem_nat, bin_or_hi, bin_shr32, bin_shl32, lenV_slice, lenV_ref, ne_eq, not_false_eq_true, beq_true, beq_false, Bool.not_true, Bool.not_false, wrap_i64, wrap_u64, dec_t, dec_f, ite_t, ite_f, ibeq_t, ibeq_f, ibne_t, ibne_f, index_slice, index_ref, slice_slice_hi, slice_ref_hi, Int.natCast_add, Int.cast_ofNat_Int, Int.add_sub_cancel, Int.toNat_natCast, Int.toNat_natCast_add_one, Int.reduceToNat, Nat.mul_one, load_dg, shareL_dg, adoptV, if_true, if_false, ite_true, ite_false, Bool.true_eq, Bool.false_eq_true, beq_self_eq_true, reduceCtorEq, reduceIte, Nat.reduceMul, Nat.reduceSub, Nat.reduceLT, Nat.reduceLeDiff, Nat.reduceEqDiff, hld, hst, hgn, wrap_u32, dg_length, take_dg, List.take_length, ends_n, ends_r, results, resVs, resV, giveV, giveVs, shareV, theRow, List.getElem?_cons_zero, List.getElem?_cons_succ, Option.map_some, List.take_zero, List.take_nil, List.take_succ_cons]
      rw [e3]
  | succ m =>
    have g1 := dW.get i
    have g2 := dV.get i
    have hgn := hgi i (Nat.le_refl _)
    have g3 := mul_bound hk g2
    have g4 : ((k : Nat) : Int) * ((V.getD i 0 : Nat) : Int) = ((k * V.getD i 0 : Nat) : Int) := (Int.natCast_mul _ _).symm
    have fin := fun lt w hlt hw => sub_step hl (by omega) hdr hb hk g2 g1 hval (k * V.getD i 0 + b) lt w rfl hlt hw
    have hdr' : ∀ w, (W'.set i w).drop (i + 1) = W.drop (i + 1) := fun w => by
      rw [drop_set_ne (by omega)]
      have := congrArg (fun l => l.drop 1) hdr
      simpa [List.drop_drop, Nat.add_comm] using this
    generalize hq : k * V.getD i 0 = q at *
    by_cases c : W.getD i 0 < (q + b) % 4294967296
    · obtain ⟨f1, f2, f3⟩ := fin 1 (W.getD i 0 + 4294967296 - (q + b) % 4294967296) (by rw [if_pos c]) (by omega)
      have e3 : (((W.getD i 0 : Nat) : Int) - (((q : Nat) : Int) + (b : Nat)) % 4294967296) % 4294967296 = ((W.getD i 0 + 4294967296 - (q + b) % 4294967296 : Nat) : Int) := by omega
      simp -implicitDefEqProofs (disch := first | omega | (apply calm_by; decide)) only [List.cons_append, List.nil_append, Ev_seq, Ev_region, Ev_skip, Ev_exit, Ev_ret, Ev_block, Ev_cond, Ev_ghost, Ev_draw_calm, GoOn_cmp, GoOn_nil, GoOn_thn, GoOn_thn_e, GoOn_thn_r, GoOn_blk, GoOn_blk_e, GoOn_blk_r, onN_n, onN_e, onN_r, Round_n, Round_e, Round_r, EvC_t, EvC_f, EvW_t, EvW_f, EvR_some, EvN_some, EvO_cons, EvO_nil, wanted, exec, put, passed, opd,
    List.length_cons, List.length_nil, Nat.zero_add, Nat.reduceAdd, List.replicate_succ, List.replicate_zero, List.set_cons_zero, List.set_cons_succ, List.getD_cons_zero, List.getD_cons_succ, Option.map_some, Option.map_none, List.map_cons, List.map_nil,
    bin_add, bin_sub, bin_mul, bin_eql, bin_neq, bin_lss, bin_leq, bin_gtr, bin_geq, bin_quo_nat, bin_rem_nat, bin_or_hi, bin_shr32, bin_shl32, lenV_slice, lenV_ref, ne_eq, not_false_eq_true, beq_true, beq_false, Bool.not_true, Bool.not_false, wrap_i64, wrap_u64, dec_t, dec_f, ite_t, ite_f, ibeq_t, ibeq_f, ibne_t, ibne_f, index_slice, index_ref, slice_slice_hi, slice_ref_hi, Int.natCast_add, Int.cast_ofNat_Int, Int.add_sub_cancel, Int.toNat_natCast, Int.toNat_natCast_add_one, Int.reduceToNat, Nat.mul_one, load_dg, shareL_dg, adoptV, if_true, if_false, ite_true, ite_false, Bool.true_eq, Bool.false_eq_true, beq_self_eq_true, reduceCtorEq, reduceIte, Nat.reduceMul, Nat.reduceSub, Nat.reduceLT, Nat.reduceLeDiff, Nat.reduceEqDiff, g4, hld, hst, hgn, wrap_u32_mod, e3, norm, keepLive, compact, List.range_zero, List.range_succ, List.nil_append, List.cons_append, List.append_nil, List.contains_cons, List.contains_nil, Bool.or_false, Bool.or_true, Bool.false_or, Bool.true_or, Nat.reduceBEq, beq_self_eq_true, idsL, ids, addId, List.filter_cons, List.filter_nil, decide_true, decide_false, List.map_cons, List.map_nil, maskD, within, withinL, mapD, mapL, subRows, getRow, List.idxOf_cons, List.idxOf_nil, cond_true, cond_false, Bool.and_true, Bool.true_and, if_true, if_false, Bool.false_eq_true, List.length_cons, List.length_nil, Nat.zero_add, Nat.reduceAdd, Nat.reduceLT, List.getD_cons_zero, List.getD_cons_succ, List.set_cons_zero, List.set_cons_succ, reduceIte, reduceCtorEq]
      refine ⟨m, by omega, i + 1, (q + b) / 4294967296 + 1, W'.set i (W.getD i 0 + 4294967296 - (q + b) % 4294967296), by omega, by simp [hl], dW'.set _ _ f2, f1, hdr' _, f3, ?_⟩
      rfl
    · obtain ⟨f1, f2, f3⟩ := fin 0 (W.getD i 0 - (q + b) % 4294967296) (by rw [if_neg c]) (by omega)
      have e3 : (((W.getD i 0 : Nat) : Int) - (((q : Nat) : Int) + (b : Nat)) % 4294967296) % 4294967296 = ((W.getD i 0 - (q + b) % 4294967296 : Nat) : Int) := by omega
      simp -implicitDefEqProofs (disch := first | omega | (apply calm_by; decide)) only [List.cons_append, List.nil_append, Ev_seq, Ev_region, Ev_skip, Ev_exit, Ev_ret, Ev_block, Ev_cond, Ev_ghost, Ev_draw_calm, GoOn_cmp, GoOn_nil, GoOn_thn, GoOn_thn_e, GoOn_thn_r, GoOn_blk, GoOn_blk_e, GoOn_blk_r, onN_n, onN_e, onN_r, Round_n, Round_e, Round_r, EvC_t, EvC_f, EvW_t, EvW_f, EvR_some, EvN_some, EvO_cons, EvO_nil, wanted, exec, put, passed, opd,
    List.length_cons, List.length_nil, Nat.zero_add, Nat.reduceAdd, List.replicate_succ, List.replicate_zero, List.set_cons_zero, List.set_cons_succ, List.getD_cons_zero, List.getD_cons_succ, Option.map_some, Option.map_none, List.map_cons, List.map_nil,
    bin_add, bin_sub, bin_mul, bin_eql, bin_neq, bin_lss, bin_leq, bin_gtr, bin_geq, bin_quo_nat, bin_rem_nat, bin_or_hi, bin_shr32, bin_shl32, lenV_slice, lenV_ref, ne_eq, not_false_eq_true, beq_true, beq_false, Bool.not_true, Bool.not_false, wrap_i64, wrap_u64, dec_t, dec_f, ite_t, ite_f, ibeq_t, ibeq_f, ibne_t, ibne_f, index_slice, index_ref, slice_slice_hi, slice_ref_hi, Int.natCast_add, Int.cast_ofNat_Int, Int.add_sub_cancel, Int.toNat_natCast, Int.toNat_natCast_add_one, Int.reduceToNat, Nat.mul_one, load_dg, shareL_dg, adoptV, if_true, if_false, ite_true, ite_false, Bool.true_eq, Bool.false_eq_true, beq_self_eq_true, reduceCtorEq, reduceIte, Nat.reduceMul, Nat.reduceSub, Nat.reduceLT, Nat.reduceLeDiff, Nat.reduceEqDiff, g4, hld, hst, hgn, wrap_u32_mod, e3, norm, keepLive, compact, List.range_zero, List.range_succ, List.nil_append, List.cons_append, List.append_nil, List.contains_cons, List.contains_nil, Bool.or_false, Bool.or_true, Bool.false_or, Bool.true_or, Nat.reduceBEq, beq_self_eq_true, idsL, ids, addId, List.filter_cons, List.filter_nil, decide_true, decide_false, List.map_cons, List.map_nil, maskD, within, withinL, mapD, mapL, subRows, getRow, List.idxOf_cons, List.idxOf_nil, cond_true, cond_false, Bool.and_true, Bool.true_and, if_true, if_false, Bool.false_eq_true, List.length_cons, List.length_nil, Nat.zero_add, Nat.reduceAdd, Nat.reduceLT, List.getD_cons_zero, List.getD_cons_succ, List.set_cons_zero, List.set_cons_succ, reduceIte, reduceCtorEq]
      refine ⟨m, by omega, i + 1, (q + b) / 4294967296 + 0, W'.set i (W.getD i 0 - (q + b) % 4294967296), by omega, by simp [hl], dW'.set _ _ f2, f1, hdr' _, f3, ?_⟩
      rfl

set_option maxHeartbeats 2000000 in
theorem addBack_ok (h : Has1 T) (P W S V : List Nat) (j n : Nat) (hj : j = P.length) (hW : W.length = n + 1) (hV : V.length = n) (dW : Dig W) (dV : Dig V) (hn : n < 2 ^ 40) (hjj : j < 2 ^ 50) :
    callW T 29 [.ref 0 [] 0 j (n + 1) 1, .slice false 1 n (dg V)] [some ⟨dg (P ++ W ++ S), false, 0, 0⟩] =
      some (.tup [], [some ⟨dg (P ++ digsN (n + 1) ((val W + val V) % 4294967296 ^ (n + 1)) ++ S), false, 0, 0⟩]) := by
  refine callW_ev (h 29 (.code F.f29) rfl) rfl ?_
  simp only [F.f29, adoptVs, adoptV, List.cons_append, List.nil_append]
  simp -implicitDefEqProofs (disch := first | omega | (apply calm_by; decide)) only [List.cons_append, List.nil_append, Ev_seq, Ev_region, Ev_skip, Ev_exit, Ev_ret, Ev_block, Ev_cond, Ev_ghost, Ev_draw_calm, GoOn_cmp, GoOn_nil, GoOn_thn, GoOn_thn_e, GoOn_thn_r, GoOn_blk, GoOn_blk_e, GoOn_blk_r, onN_n, onN_e, onN_r, Round_n, Round_e, Round_r, EvC_t, EvC_f, EvW_t, EvW_f, EvR_some, EvN_some, EvO_cons, EvO_nil, wanted, exec, put, passed, opd,
    List.length_cons, List.length_nil, Nat.zero_add, Nat.reduceAdd, List.replicate_succ, List.replicate_zero, List.set_cons_zero, List.set_cons_succ, List.getD_cons_zero, List.getD_cons_succ, Option.map_some, Option.map_none, List.map_cons, List.map_nil,
    bin_add, bin_sub, bin_mul, bin_eql, bin_neq, bin_lss, bin_leq, bin_gtr, bin_geq, bin_quo_nat, bin_rem_nat, bin_or_hi, bin_shr32, bin_shl32, lenV_slice, lenV_ref, ne_eq, not_false_eq_true, beq_true, beq_false, Bool.not_true, Bool.not_false, wrap_i64, wrap_u64, dec_t, dec_f, ite_t, ite_f, ibeq_t, ibeq_f, ibne_t, ibne_f, index_slice, index_ref, slice_slice_hi, slice_ref_hi, Int.natCast_add, Int.cast_ofNat_Int, Int.add_sub_cancel, Int.toNat_natCast, Int.toNat_natCast_add_one, Int.reduceToNat, Nat.mul_one, load_dg, shareL_dg, adoptV, if_true, if_false, ite_true, ite_false, Bool.true_eq, Bool.false_eq_true, beq_self_eq_true, reduceCtorEq, reduceIte, Nat.reduceMul, Nat.reduceSub, Nat.reduceLT, Nat.reduceLeDiff, Nat.reduceEqDiff]
  refine Ev_loop (fun m st => ∃ (i c : Nat) (W' : List Nat), i + m = n ∧ W'.length = W.length ∧ Dig W' ∧ c ≤ 1 ∧ W'.drop i = W.drop i ∧ val (W'.take i) + 4294967296 ^ i * c = val (W.take i) + val (V.take i) ∧
    st = ⟨[.ref 0 [] 0 j (n + 1) 1, .undef, .int .u64 c, .undef, .undef, .slice false 1 n (dg V), .int .i64 n, .int .i64 i], [], [some ⟨dg (P ++ W' ++ S), false, 0, 0⟩], 1⟩)
    n ⟨0, 0, W, by omega, rfl, dW, by omega, rfl, by simp [val], ?_⟩ ?_
  · simp only [norm, keepLive, compact, List.range_zero, List.range_succ, List.nil_append, List.cons_append, List.append_nil, List.contains_cons, List.contains_nil, Bool.or_false, Bool.or_true, Bool.false_or, Bool.true_or, Nat.reduceBEq, beq_self_eq_true, idsL, ids, addId, List.filter_cons, List.filter_nil, decide_true, decide_false, List.map_cons, List.map_nil, maskD, within, withinL, mapD, mapL, subRows, getRow, List.idxOf_cons, List.idxOf_nil, cond_true, cond_false, Bool.and_true, Bool.true_and, if_true, if_false, Bool.false_eq_true, List.length_cons, List.length_nil, Nat.zero_add, Nat.reduceAdd, Nat.reduceLT, List.getD_cons_zero, List.getD_cons_succ, List.set_cons_zero, List.set_cons_succ, reduceIte, reduceCtorEq]; rfl
  rintro m st ⟨i, c, W', hi, hl, dW', hc, hdr, hval, rfl⟩
  have hld : ∀ i, i < n + 1 → loadV [some ⟨dg (P ++ W' ++ S), false, 0, 0⟩] false 1 (.addr 0 [] 0 (j + i)) = some (.int .u32 (W'.getD i 0 : Nat)) := fun i hi => load_win P W' S j i hj (by omega)
  have hst : ∀ (i : Nat) (z : Int), i < n + 1 → 0 ≤ z → storeV [some ⟨dg (P ++ W' ++ S), false, 0, 0⟩] true 1 (.addr 0 [] 0 (j + i)) (.int .u32 z) = some [some ⟨dg (P ++ W'.set i z.toNat ++ S), false, 0, 0⟩] := fun i z h1 h2 => store_win P W' S j i z hj (by omega) h2
  have hgn : W'.getD i 0 = W.getD i 0 := by
    have := congrArg (fun l => l.getD 0 0) hdr
    simpa [List.getD, List.getElem?_drop] using this
  have g1 := dW.get i
  cases m with
  | zero =>
    have ei : i = n := by omega
    subst ei
    rw [List.take_of_length_le (show V.length ≤ i by omega)] at hval
    have v1 := val_take W i (by omega)
    rw [List.take_of_length_le (show W.length ≤ i + 1 by omega)] at v1
    have e1 : val (W'.set i ((W.getD i 0 + c) % 4294967296)) = (val W + val V) % 4294967296 ^ (i + 1) := by
      have q1 := val_set W' i ((W.getD i 0 + c) % 4294967296) (by omega)
      rw [List.take_of_length_le (by simp; omega)] at q1
      have q2 : val W + val V = val (W'.take i) + 4294967296 ^ i * (W.getD i 0 + c) := by rw [Nat.mul_add]; omega
      have q3 := val_lt (dW'.take i)
      rw [List.length_take, Nat.min_eq_left (by omega)] at q3
      rw [q1, q2]
      by_cases cc : W.getD i 0 + c < 4294967296
      · rw [Nat.mod_eq_of_lt cc, Nat.mod_eq_of_lt]
        rw [Nat.pow_succ]
        have := Nat.mul_le_mul_left (4294967296 ^ i) (show W.getD i 0 + c + 1 ≤ 4294967296 from cc)
        rw [Nat.mul_add] at this
        omega
      · have e : W.getD i 0 + c = 4294967296 := by omega
        rw [e, Nat.mod_self, Nat.mul_zero, Nat.add_zero, ← Nat.pow_succ, Nat.add_mod_right, Nat.mod_eq_of_lt]
        rw [Nat.pow_succ]
        omega
    have e2 := digsN_unique (dW'.set i ((W.getD i 0 + c) % 4294967296) (by omega))
    rw [e1] at e2
    simp only [List.length_set, hl, hW] at e2
    have e3 : (((W.getD i 0 : Nat) : Int) + (c : Nat)) % 4294967296 = (((W.getD i 0 + c) % 4294967296 : Nat) : Int) := by omega
    have e5 : IntKind.u32.wrap (((W.getD i 0 : Nat) : Int) + (c : Nat)) = (((W.getD i 0 + c) % 4294967296 : Nat) : Int) := by rw [wrap_u32_mod, e3]
    have e6 : IntKind.u32.wrap (c : Nat) = ((c : Nat) : Int) := wrap_u32 _ (by omega)
    rw [← e2]
    simp -implicitDefEqProofs (disch := first | omega | (apply calm_by; decide)) only [List.cons_append, List.nil_append, Ev_seq, Ev_region, Ev_skip, Ev_exit, Ev_ret, Ev_block, Ev_cond, Ev_ghost, Ev_draw_calm, GoOn_cmp, GoOn_nil, GoOn_thn, GoOn_thn_e, GoOn_thn_r, GoOn_blk, GoOn_blk_e, GoOn_blk_r, onN_n, onN_e, onN_r, Round_n, Round_e, Round_r, EvC_t, EvC_f, EvW_t, EvW_f, EvR_some, EvN_some, EvO_cons, EvO_nil, wanted, exec, put, passed, opd,
    List.length_cons, List.length_nil, Nat.zero_add, Nat.reduceAdd, List.replicate_succ, List.replicate_zero, List.set_cons_zero, List.set_cons_succ, List.getD_cons_zero, List.getD_cons_succ, Option.map_some, Option.map_none, List.map_cons, List.map_nil,
    bin_add, bin_sub, bin_mul, bin_eql, bin_neq, bin_lss, bin_leq, bin_gtr, bin_geq, bin_quo_nat, bin_rem_nat, bin_or_hi, bin_shr32, bin_shl32, lenV_slice, lenV_ref, ne_eq, not_false_eq_true, beq_true, beq_false, Bool.not_true, Bool.not_false, wrap_i64, wrap_u64, dec_t, dec_f, ite_t, ite_f, ibeq_t, ibeq_f, ibne_t, ibne_f, index_slice, index_ref, slice_slice_hi, slice_ref_hi, Int.natCast_add, Int.cast_ofNat_Int, Int.add_sub_cancel, Int.toNat_natCast, Int.toNat_natCast_add_one, Int.reduceToNat, Nat.mul_one, load_dg, shareL_dg, adoptV, if_true, if_false, ite_true, ite_false, Bool.true_eq, Bool.false_eq_true, beq_self_eq_true, reduceCtorEq, reduceIte, Nat.reduceMul, Nat.reduceSub, Nat.reduceLT, Nat.reduceLeDiff, Nat.reduceEqDiff, hld, hst, hgn, e6, e5, dg_length, take_dg, List.take_length, ends_n, ends_r, results, resVs, resV, giveV, giveVs, shareV, theRow, List.getElem?_cons_zero, List.getElem?_cons_succ, Option.map_some, List.take_zero, List.take_nil, List.take_succ_cons]
  | succ m =>
    have g2 := dV.get i
    have v1 := val_take W i (by omega)
    have v2 := val_take' V i
    have hdr' : ∀ w, (W'.set i w).drop (i + 1) = W.drop (i + 1) := fun w => by
      rw [drop_set_ne (by omega)]
      have := congrArg (fun l => l.drop 1) hdr
      simpa [List.drop_drop, Nat.add_comm] using this
    have q1 := val_set W' i ((c + (W.getD i 0 + V.getD i 0)) % 4294967296) (by omega)
    have q2 := carry_eq i (c + (W.getD i 0 + V.getD i 0))
    have q3 : 4294967296 ^ i * (c + (W.getD i 0 + V.getD i 0)) = 4294967296 ^ i * c + (4294967296 ^ i * W.getD i 0 + 4294967296 ^ i * V.getD i 0) := by rw [Nat.mul_add, Nat.mul_add]
    have e3 : ((((c : Nat) : Int) + (((W.getD i 0 : Nat) : Int) + ((V.getD i 0 : Nat) : Int))) % 4294967296).toNat = (c + (W.getD i 0 + V.getD i 0)) % 4294967296 := by omega
    simp -implicitDefEqProofs (disch := first | omega | (apply calm_by; decide)) only [List.cons_append, List.nil_append, Ev_seq, Ev_region, Ev_skip, Ev_exit, Ev_ret, Ev_block, Ev_cond, Ev_ghost, Ev_draw_calm, GoOn_cmp, GoOn_nil, GoOn_thn, GoOn_thn_e, GoOn_thn_r, GoOn_blk, GoOn_blk_e, GoOn_blk_r, onN_n, onN_e, onN_r, Round_n, Round_e, Round_r, EvC_t, EvC_f, EvW_t, EvW_f, EvR_some, EvN_some, EvO_cons, EvO_nil, wanted, exec, put, passed, opd,
    List.length_cons, List.length_nil, Nat.zero_add, Nat.reduceAdd, List.replicate_succ, List.replicate_zero, List.set_cons_zero, List.set_cons_succ, List.getD_cons_zero, List.getD_cons_succ, Option.map_some, Option.map_none, List.map_cons, List.map_nil,
    bin_add, bin_sub, bin_mul, bin_eql, bin_neq, bin_lss, bin_leq, bin_gtr, bin_geq, bin_quo_nat, bin_rem_nat, bin_or_hi, bin_shr32, bin_shl32, lenV_slice, lenV_ref, ne_eq, not_false_eq_true, beq_true, beq_false, Bool.not_true, Bool.not_false, wrap_i64, wrap_u64, dec_t, dec_f, ite_t, ite_f, ibeq_t, ibeq_f, ibne_t, ibne_f, index_slice, index_ref, slice_slice_hi, slice_ref_hi, Int.natCast_add, Int.cast_ofNat_Int, Int.add_sub_cancel, Int.toNat_natCast, Int.toNat_natCast_add_one, Int.reduceToNat, Nat.mul_one, load_dg, shareL_dg, adoptV, if_true, if_false, ite_true, ite_false, Bool.true_eq, Bool.false_eq_true, beq_self_eq_true, reduceCtorEq, reduceIte, Nat.reduceMul, Nat.reduceSub, Nat.reduceLT, Nat.reduceLeDiff, Nat.reduceEqDiff, hld, hst, hgn, wrap_u32_mod, e3, norm, keepLive, compact, List.range_zero, List.range_succ, List.nil_append, List.cons_append, List.append_nil, List.contains_cons, List.contains_nil, Bool.or_false, Bool.or_true, Bool.false_or, Bool.true_or, Nat.reduceBEq, beq_self_eq_true, idsL, ids, addId, List.filter_cons, List.filter_nil, decide_true, decide_false, List.map_cons, List.map_nil, maskD, within, withinL, mapD, mapL, subRows, getRow, List.idxOf_cons, List.idxOf_nil, cond_true, cond_false, Bool.and_true, Bool.true_and, if_true, if_false, Bool.false_eq_true, List.length_cons, List.length_nil, Nat.zero_add, Nat.reduceAdd, Nat.reduceLT, List.getD_cons_zero, List.getD_cons_succ, List.set_cons_zero, List.set_cons_succ, reduceIte, reduceCtorEq]
    refine ⟨m, by omega, i + 1, (c + (W.getD i 0 + V.getD i 0)) / 4294967296, W'.set i ((c + (W.getD i 0 + V.getD i 0)) % 4294967296), by omega, by simp [hl], dW'.set _ _ (by omega), by omega, hdr' _, by omega, ?_⟩
    rfl
end
end Av
namespace Av

theorem knuth_lo {P V2 W3 Vl Wl q g : Nat} (hq : q * (Vl + P * V2) ≤ Wl + P * W3) (hWl : Wl < P) (hg : W3 < g * V2) : q < g := by
  rcases Nat.lt_or_ge q g with h | h
  · exact h
  · exfalso
    have h1 : g * V2 ≤ q * V2 := Nat.mul_le_mul_right _ h
    have h2 : P * (W3 + 1) ≤ P * (q * V2) := Nat.mul_le_mul_left _ (by omega)
    have h3 : q * (Vl + P * V2) = q * Vl + P * (q * V2) := by rw [Nat.mul_add, Nat.mul_left_comm]
    rw [Nat.mul_add] at h2
    omega

theorem knuth_hi {P V2 W3 Vl Wl q g b : Nat} (hg : g * V2 ≤ W3) (hgB : g ≤ b) (hV2 : b ≤ V2) (hVl : Vl < P) (hq : Wl + P * W3 < (q + 1) * (Vl + P * V2)) : g ≤ q + 1 := by
  rcases Nat.lt_or_ge g (q + 2) with h | h
  · omega
  · exfalso
    have h1 : (q + 2) * (Vl + P * V2) ≤ g * (Vl + P * V2) := Nat.mul_le_mul_right _ h
    have h2 : g * (Vl + P * V2) = g * Vl + P * (g * V2) := by rw [Nat.mul_add, Nat.mul_left_comm]
    have h3 : P * (g * V2) ≤ P * W3 := Nat.mul_le_mul_left _ hg
    have h4 : g * Vl ≤ b * Vl := Nat.mul_le_mul_right _ hgB
    have h5 : b * Vl ≤ b * P := Nat.mul_le_mul_left _ (by omega)
    have h6 : b * P ≤ V2 * P := Nat.mul_le_mul_right _ hV2
    have h7 : (q + 2) * (Vl + P * V2) = (q + 1) * (Vl + P * V2) + (Vl + P * V2) := by rw [show q + 2 = (q + 1) + 1 from rfl, Nat.add_mul, Nat.one_mul]
    rw [Nat.mul_comm V2 P] at h6
    omega

/-- The first guess is not too small. -/
theorem knuth_first {P top two w0 next Vl Wl q : Nat} (htop : 0 < top) (hw0 : w0 < 4294967296) (hWl : Wl < P) (hq : q * (Vl + P * (top * 4294967296 + next)) ≤ Wl + P * (two * 4294967296 + w0)) : q ≤ two / top := by
  rw [Nat.le_div_iff_mul_le htop]
  rcases Nat.lt_or_ge two (q * top) with h | h
  · exfalso
    have h1 : q * (Vl + P * (top * 4294967296 + next)) = q * Vl + (P * ((q * top) * 4294967296) + P * (q * next)) := by
      rw [Nat.mul_add, Nat.mul_left_comm q P, Nat.mul_add q, Nat.mul_add P, Nat.mul_assoc]
    have h2 : P * ((two + 1) * 4294967296) ≤ P * ((q * top) * 4294967296) := Nat.mul_le_mul_left _ (Nat.mul_le_mul_right _ h)
    have h3 : P * (two * 4294967296 + w0 + 1) ≤ P * ((two + 1) * 4294967296) := Nat.mul_le_mul_left _ (by omega)
    rw [Nat.mul_add P (two * 4294967296 + w0)] at h3
    omega
  · exact h

/-- The last two digits of the front of a list. -/
theorem val_top2 (a : List Nat) (n : Nat) (h : a.length = n + 2) : val a = val (a.take n) + 4294967296 ^ n * (a.getD (n + 1) 0 * 4294967296 + a.getD n 0) := by
  have h1 := val_take' a (n + 1)
  have h2 := val_take' a n
  rw [List.take_of_length_le (by omega)] at h1
  rw [h1, h2, Nat.pow_succ, Nat.mul_assoc, Nat.mul_add]
  have : 4294967296 ^ n * (4294967296 * a.getD (n + 1) 0) = 4294967296 ^ n * (a.getD (n + 1) 0 * 4294967296) := by rw [Nat.mul_comm 4294967296]
  omega
theorem val_top3 (a : List Nat) (n : Nat) (h : a.length = n + 3) : val a = val (a.take n) + 4294967296 ^ n * ((a.getD (n + 2) 0 * 4294967296 + a.getD (n + 1) 0) * 4294967296 + a.getD n 0) := by
  have h1 := val_take' a (n + 2)
  have h2 := val_take' a (n + 1)
  have h3 := val_take' a n
  rw [List.take_of_length_le (by omega)] at h1
  have e1 : 4294967296 ^ (n + 1) * a.getD (n + 1) 0 = 4294967296 ^ n * (a.getD (n + 1) 0 * 4294967296) := by rw [Nat.pow_succ, Nat.mul_assoc, Nat.mul_comm 4294967296]
  have e2 : 4294967296 ^ (n + 2) * a.getD (n + 2) 0 = 4294967296 ^ n * (a.getD (n + 2) 0 * 4294967296 * 4294967296) := by
    rw [show n + 2 = n + 1 + 1 from rfl, Nat.pow_succ, Nat.pow_succ, Nat.mul_assoc, Nat.mul_assoc]
    congr 1
    generalize a.getD (n + 1 + 1) 0 = z
    omega
  rw [h1, h2, h3, e1, e2, Nat.add_mul, Nat.mul_add, Nat.mul_add]
  omega
end Av
namespace Av
open Go
set_option linter.unusedSimpArgs false
def b25i : ACode :=
  (.seq (.seq (.region [⟨.move (.v 13), none, none⟩,
      ⟨.bin .shr (.t 0) (.c (.int .u64 32)), none, none⟩,
      ⟨.bin .neq (.t 1) (.c (.int .u64 0)), none, none⟩,
      ⟨.move (.t 2), none, none⟩,
      ⟨.move (.v 13), none, (some (3, false))⟩,
      ⟨.move (.v 10), none, (some (3, false))⟩,
      ⟨.bin .mul (.t 4) (.t 5), none, (some (3, false))⟩,
      ⟨.move (.v 14), none, (some (3, false))⟩,
      ⟨.bin .shl (.t 7) (.c (.int .u64 32)), none, (some (3, false))⟩,
      ⟨.move (.v 6), none, (some (3, false))⟩,
      ⟨.move (.v 11), none, (some (3, false))⟩,
      ⟨.move (.v 4), none, (some (3, false))⟩,
      ⟨.bin .add (.t 10) (.t 11), none, (some (3, false))⟩,
      ⟨.bin .sub (.t 12) (.c (.int .i64 2)), none, (some (3, false))⟩,
      ⟨.indexAddr 1 (.t 9) (.t 13), none, (some (3, false))⟩,
      ⟨.load .asis false 1 (.t 14), none, (some (3, false))⟩,
      ⟨.conv .u64 (.t 15), none, (some (3, false))⟩,
      ⟨.bin .or (.t 8) (.t 16), none, (some (3, false))⟩,
      ⟨.bin .gtr (.t 6) (.t 17), none, (some (3, false))⟩,
      ⟨.pick (.t 3) (.c (.bool true)) (.t 18), none, none⟩])
    (.cond (.t 19)
     .skip
     (.exit 2)))
    (.block 3 (.seq (.region [⟨.move (.v 13), none, none⟩,
      ⟨.bin .sub (.t 0) (.c (.int .u64 1)), none, none⟩,
      ⟨.assign .asis (.t 1), (some 13), none⟩])
    (.seq (.region [⟨.move (.v 14), none, none⟩,
      ⟨.move (.v 9), none, none⟩,
      ⟨.bin .add (.t 0) (.t 1), none, none⟩,
      ⟨.assign .asis (.t 2), (some 14), none⟩])
    (.seq (.region [⟨.move (.v 14), none, none⟩,
      ⟨.bin .shr (.t 0) (.c (.int .u64 32)), none, none⟩,
      ⟨.bin .neq (.t 1) (.c (.int .u64 0)), none, none⟩])
    (.cond (.t 2)
     (.exit 2)
     .skip))))))
def b25 : ACode :=
  (.seq (.seq (.region [⟨.move (.v 11), none, none⟩,
     ⟨.bin .geq (.t 0) (.c (.int .i64 0)), none, none⟩])
   (.cond (.t 1)
    .skip
    (.exit 0)))
   (.seq (.block 1 (.seq (.draw [⟨.move (.v 6), none, none⟩,
     ⟨.move (.v 11), none, none⟩,
     ⟨.move (.v 4), none, none⟩,
     ⟨.bin .add (.t 1) (.t 2), none, none⟩,
     ⟨.indexAddr 1 (.t 0) (.t 3), none, none⟩,
     ⟨.load .asis false 1 (.t 4), none, none⟩,
     ⟨.conv .u64 (.t 5), none, none⟩,
     ⟨.bin .shl (.t 6) (.c (.int .u64 32)), none, none⟩,
     ⟨.move (.v 6), none, none⟩,
     ⟨.move (.v 11), none, none⟩,
     ⟨.move (.v 4), none, none⟩,
     ⟨.bin .add (.t 9) (.t 10), none, none⟩,
     ⟨.bin .sub (.t 11) (.c (.int .i64 1)), none, none⟩,
     ⟨.indexAddr 1 (.t 8) (.t 12), none, none⟩,
     ⟨.load .asis false 1 (.t 13), none, none⟩,
     ⟨.conv .u64 (.t 14), none, none⟩,
     ⟨.bin .or (.t 7) (.t 15), none, none⟩,
     ⟨.assign .asis (.t 16), (some 12), none⟩] [] [0, 0, 0, 0, 0, 0, 0, 0, 0, 0, 0, 0, 0, 0, 0, 0, 0, 0])
   (.seq (.draw [⟨.move (.v 12), none, none⟩,
     ⟨.move (.v 9), none, none⟩,
     ⟨.bin .quo (.t 0) (.t 1), none, none⟩,
     ⟨.move (.v 12), none, none⟩,
     ⟨.move (.v 9), none, none⟩,
     ⟨.bin .rem (.t 3) (.t 4), none, none⟩,
     ⟨.assign .asis (.t 2), (some 13), none⟩,
     ⟨.assign .asis (.t 5), (some 14), none⟩] [] [0, 0, 0, 0, 0, 0, 0, 0])
   (.seq (.block 2 (.loop [4, 5, 6, 7, 8, 9, 10, 11, 13, 14]
    (.seq (.seq (.region [⟨.move (.v 13), none, none⟩,
      ⟨.bin .shr (.t 0) (.c (.int .u64 32)), none, none⟩,
      ⟨.bin .neq (.t 1) (.c (.int .u64 0)), none, none⟩,
      ⟨.move (.t 2), none, none⟩,
      ⟨.move (.v 13), none, (some (3, false))⟩,
      ⟨.move (.v 10), none, (some (3, false))⟩,
      ⟨.bin .mul (.t 4) (.t 5), none, (some (3, false))⟩,
      ⟨.move (.v 14), none, (some (3, false))⟩,
      ⟨.bin .shl (.t 7) (.c (.int .u64 32)), none, (some (3, false))⟩,
      ⟨.move (.v 6), none, (some (3, false))⟩,
      ⟨.move (.v 11), none, (some (3, false))⟩,
      ⟨.move (.v 4), none, (some (3, false))⟩,
      ⟨.bin .add (.t 10) (.t 11), none, (some (3, false))⟩,
      ⟨.bin .sub (.t 12) (.c (.int .i64 2)), none, (some (3, false))⟩,
      ⟨.indexAddr 1 (.t 9) (.t 13), none, (some (3, false))⟩,
      ⟨.load .asis false 1 (.t 14), none, (some (3, false))⟩,
      ⟨.conv .u64 (.t 15), none, (some (3, false))⟩,
      ⟨.bin .or (.t 8) (.t 16), none, (some (3, false))⟩,
      ⟨.bin .gtr (.t 6) (.t 17), none, (some (3, false))⟩,
      ⟨.pick (.t 3) (.c (.bool true)) (.t 18), none, none⟩])
    (.cond (.t 19)
     .skip
     (.exit 2)))
    (.block 3 (.seq (.region [⟨.move (.v 13), none, none⟩,
      ⟨.bin .sub (.t 0) (.c (.int .u64 1)), none, none⟩,
      ⟨.assign .asis (.t 1), (some 13), none⟩])
    (.seq (.region [⟨.move (.v 14), none, none⟩,
      ⟨.move (.v 9), none, none⟩,
      ⟨.bin .add (.t 0) (.t 1), none, none⟩,
      ⟨.assign .asis (.t 2), (some 14), none⟩])
    (.seq (.region [⟨.move (.v 14), none, none⟩,
      ⟨.bin .shr (.t 0) (.c (.int .u64 32)), none, none⟩,
      ⟨.bin .neq (.t 1) (.c (.int .u64 0)), none, none⟩])
    (.cond (.t 2)
     (.exit 2)
     .skip))))))))
   (.seq (.seq (.region [⟨.move (.v 6), none, none⟩,
     ⟨.move (.v 11), none, none⟩,
     ⟨.move (.v 11), none, none⟩,
     ⟨.move (.v 4), none, none⟩,
     ⟨.bin .add (.t 2) (.t 3), none, none⟩,
     ⟨.bin .add (.t 4) (.c (.int .i64 1)), none, none⟩,
     ⟨.slice 1 (.t 0) (some (.t 1)) (some (.t 5)), none, none⟩,
     ⟨.move (.v 7), none, none⟩,
     ⟨.move (.v 13), none, none⟩,
     ⟨.call 28 [.asis, .asis, .asis] .share [(.t 6), (.t 7), (.t 8)], none, none⟩])
   (.cond (.t 9)
    (.seq (.region [⟨.move (.v 13), none, none⟩,
      ⟨.bin .sub (.t 0) (.c (.int .u64 1)), none, none⟩,
      ⟨.assign .asis (.t 1), (some 13), none⟩])
    (.region [⟨.move (.v 6), none, none⟩,
      ⟨.move (.v 11), none, none⟩,
      ⟨.move (.v 11), none, none⟩,
      ⟨.move (.v 4), none, none⟩,
      ⟨.bin .add (.t 2) (.t 3), none, none⟩,
      ⟨.bin .add (.t 4) (.c (.int .i64 1)), none, none⟩,
      ⟨.slice 1 (.t 0) (some (.t 1)) (some (.t 5)), none, none⟩,
      ⟨.move (.v 7), none, none⟩,
      ⟨.call 29 [.asis, .asis] .share [(.t 6), (.t 7)], none, none⟩]))
    .skip))
   (.region [⟨.move (.v 8), none, none⟩,
     ⟨.move (.v 11), none, none⟩,
     ⟨.move (.v 13), none, none⟩,
     ⟨.conv .u32 (.t 2), none, none⟩,
     ⟨.indexAddr 1 (.t 0) (.t 1), none, none⟩,
     ⟨.store true 1 (.t 4) (.t 3), none, none⟩]))))))
   (.region [⟨.move (.v 11), none, none⟩,
     ⟨.bin .sub (.t 0) (.c (.int .i64 1)), none, none⟩,
     ⟨.assign .asis (.t 1), (some 11), none⟩])))
section
variable {T : Nat → Option Fun}

/-- A state of divLong's outer loop. -/
def st25 (k s L j top next : Nat) (V : List Nat) (v12 v13 v14 : D) (ts : List D) (rows : Rows) (i : Int) : St :=
  ⟨[.undef, .undef, .undef, .undef, .int .i64 ((k : Int) + 2), .int .u64 s, .ref 0 [] 0 0 (L + (k + 2) + 1) 1, .slice false 1 (k + 2) (dg V), .ref 1 [] 0 0 (L + 1) 1, .int .u64 top, .int .u64 next, .int .i64 i, v12, v13, v14, .undef, .undef, .undef, .undef], ts, rows, 0⟩

set_option maxHeartbeats 2000000 in
/-- The guess is put right. -/
theorem guess_ok {rows : Rows} {Qf : AExit → St → Prop} {ks : List Todo} (k s L j top next w0 two q g0 r0 : Nat) (V : List Nat) (v12 : D) (ts0 : List D) (hrows : ∃ a b, rows = [some a, some b])
    (hL : L + k < 2 ^ 50) (hj : j ≤ L) (gt : top < 4294967296) (gt0 : 2147483648 ≤ top) (gn : next < 4294967296) (gw : w0 < 4294967296) (htwo : two < 4294967296 * top + 4294967296) (hqB : q < 4294967296)
    (hld : loadV rows false 1 (.addr 0 [] 0 (j + k)) = some (.int .u32 (w0 : Nat)))
    (F1 : ∀ g, two * 4294967296 + w0 < g * (top * 4294967296 + next) → q < g) (F2 : ∀ g, g < 4294967296 → g * (top * 4294967296 + next) ≤ two * 4294967296 + w0 → g ≤ q + 1)
    (h0 : g0 * top + r0 = two) (hr0 : r0 < 4294967296) (hq0 : q ≤ g0)
    (hK : ∀ (g r : Nat) (s' : St), g < 4294967296 → q ≤ g → g ≤ q + 1 → (∃ ts, s' = st25 k s L j top next V .undef (.int .u64 g) (.int .u64 r) ts rows j) → GoOn T Qf ks .normal s') :
    Ev T (.loop [4, 5, 6, 7, 8, 9, 10, 11, 13, 14] b25i) (st25 k s L j top next V v12 (.int .u64 g0) (.int .u64 r0) ts0 rows j) (.blk 2 :: ks) Qf := by
  obtain ⟨ra, rb, rfl⟩ := hrows
  refine Ev_loop (fun g st => ∃ r : Nat, g * top + r = two ∧ r < 4294967296 ∧ q ≤ g ∧ st = st25 k s L j top next V .undef (.int .u64 g) (.int .u64 r) [] [some ra, some rb] j) g0 ⟨r0, h0, hr0, hq0, ?_⟩ ?_
  · simp only [st25, norm, keepLive, compact, List.range_zero, List.range_succ, List.nil_append, List.cons_append, List.append_nil, List.contains_cons, List.contains_nil, Bool.or_false, Bool.or_true, Bool.false_or, Bool.true_or, Nat.reduceBEq, beq_self_eq_true, idsL, ids, addId, List.filter_cons, List.filter_nil, decide_true, decide_false, List.map_cons, List.map_nil, maskD, within, withinL, mapD, mapL, subRows, getRow, List.idxOf_cons, List.idxOf_nil, cond_true, cond_false, Bool.and_true, Bool.true_and, if_true, if_false, Bool.false_eq_true, List.length_cons, List.length_nil, Nat.zero_add, Nat.reduceAdd, Nat.reduceLT, List.getD_cons_zero, List.getD_cons_succ, List.set_cons_zero, List.set_cons_succ, reduceIte, reduceCtorEq]
  rintro g st ⟨r, hgr, hr, hqg, rfl⟩
  have i3 : ((j : Int) + ((k : Int) + 2) - 2).toNat = j + k := by omega
  have hV2 : g * (top * 4294967296 + next) = (g * top) * 4294967296 + g * next := by rw [Nat.mul_add, Nat.mul_assoc]
  have hg2 : g ≤ two := by
    have := Nat.mul_le_mul_left g (show 1 ≤ top by omega)
    omega
  -- one less
  have less : q < g → (g - 1) * top + (r + top) = two := fun h => by
    have e : g * top = (g - 1) * top + top := by
      have := Nat.succ_mul (g - 1) top
      rw [show (g - 1).succ = g by omega] at this
      exact this
    omega
  have small : r + top ≥ 4294967296 → g ≤ 4294967296 := fun h => by
    rcases Nat.lt_or_ge 4294967296 g with hc | hc
    · exfalso
      have := Nat.mul_le_mul_right top hc
      rw [Nat.succ_mul] at this
      omega
    · exact hc
  have e1 : q < g → ((g - 1 : Nat) : Int) = (g : Int) - 1 := fun h => by omega
  -- the loop goes round, or is left
  have brk : q < g → r + top ≥ 4294967296 → g - 1 < 4294967296 ∧ q ≤ g - 1 ∧ g - 1 ≤ q + 1 := fun h1 h2 => by
    have h3 := small h2
    have h4 := less h1
    refine ⟨by omega, by omega, F2 _ (by omega) ?_⟩
    have h5 : (g - 1) * next ≤ 4294967295 * 4294967295 := Nat.mul_le_mul (by omega) (by omega)
    have h6 : (g - 1) * (top * 4294967296 + next) = ((g - 1) * top) * 4294967296 + (g - 1) * next := by rw [Nat.mul_add, Nat.mul_assoc]
    omega
  by_cases c1 : g < 4294967296
  · have g5 : ((g : Nat) : Int) * ((next : Nat) : Int) = ((g * next : Nat) : Int) := (Int.natCast_mul _ _).symm
    have g6 : g * next ≤ 4294967295 * 4294967295 := Nat.mul_le_mul (by omega) (by omega)
    obtain ⟨pr, hpr⟩ : ∃ pr, pr = g * next := ⟨_, rfl⟩
    rw [← hpr] at g5 g6 hV2
    obtain ⟨z, hz⟩ : ∃ z, z = r * 4294967296 + w0 := ⟨_, rfl⟩
    have hzc : ((r : Nat) : Int) * 4294967296 + ((w0 : Nat) : Int) = ((z : Nat) : Int) := by omega
    have c1' : (g : Int) / 4294967296 = 0 := by omega
    by_cases c2 : pr > z
    · have hlt : q < g := F1 g (by omega)
      have el := e1 hlt
      have hless := less hlt
      have hbrk := brk hlt
      clear F1 F2 less small brk hV2 e1
      by_cases c3 : r + top < 4294967296
      · have c3' : ((r : Int) + (top : Int)) / 4294967296 = 0 := by omega
        simp only [b25i, st25]
        simp -implicitDefEqProofs (disch := first | omega | (apply calm_by; decide)) only [List.cons_append, List.nil_append, Ev_seq, Ev_region, Ev_skip, Ev_exit, Ev_ret, Ev_block, Ev_cond, Ev_ghost, Ev_draw_calm, GoOn_cmp, GoOn_nil, GoOn_thn, GoOn_thn_e, GoOn_thn_r, GoOn_blk, GoOn_blk_e, GoOn_blk_r, onN_n, onN_e, onN_r, Round_n, Round_e, Round_r, EvC_t, EvC_f, EvW_t, EvW_f, EvR_some, EvN_some, EvO_cons, EvO_nil, wanted, exec, put, passed, opd,
    List.length_cons, List.length_nil, Nat.zero_add, Nat.reduceAdd, List.replicate_succ, List.replicate_zero, List.set_cons_zero, List.set_cons_succ, List.getD_cons_zero, List.getD_cons_succ, Option.map_some, Option.map_none, List.map_cons, List.map_nil,
    bin_add, bin_sub, bin_mul, bin_eql, bin_neq, bin_lss, bin_leq, bin_gtr, bin_geq, bin_quo_nat, bin_rem_nat, bin_or_hi, bin_shr32, bin_shl32, lenV_slice, lenV_ref, ne_eq, not_false_eq_true, beq_true, beq_false, Bool.not_true, Bool.not_false, wrap_i64, wrap_u64, dec_t, dec_f, ite_t, ite_f, ibeq_t, ibeq_f, ibne_t, ibne_f, index_slice, index_ref, slice_slice_hi, slice_ref_hi, Int.natCast_add, Int.cast_ofNat_Int, Int.add_sub_cancel, Int.toNat_natCast, Int.toNat_natCast_add_one, Int.reduceToNat, Nat.mul_one, load_dg, shareL_dg, adoptV, if_true, if_false, ite_true, ite_false, Bool.true_eq, Bool.false_eq_true, beq_self_eq_true, reduceCtorEq, reduceIte, Nat.reduceMul, Nat.reduceSub, Nat.reduceLT, Nat.reduceLeDiff, Nat.reduceEqDiff, c1', i3, g5, hld, hzc, c3']
        refine ⟨g - 1, by omega, r + top, hless, c3, by omega, ?_⟩
        simp only [st25, norm, keepLive, compact, List.range_zero, List.range_succ, List.nil_append, List.cons_append, List.append_nil, List.contains_cons, List.contains_nil, Bool.or_false, Bool.or_true, Bool.false_or, Bool.true_or, Nat.reduceBEq, beq_self_eq_true, idsL, ids, addId, List.filter_cons, List.filter_nil, decide_true, decide_false, List.map_cons, List.map_nil, maskD, within, withinL, mapD, mapL, subRows, getRow, List.idxOf_cons, List.idxOf_nil, cond_true, cond_false, Bool.and_true, Bool.true_and, if_true, if_false, Bool.false_eq_true, List.length_cons, List.length_nil, Nat.zero_add, Nat.reduceAdd, Nat.reduceLT, List.getD_cons_zero, List.getD_cons_succ, List.set_cons_zero, List.set_cons_succ, reduceIte, reduceCtorEq, el, Int.natCast_add]
      · have c3' : ((r : Int) + (top : Int)) / 4294967296 = 1 := by omega
        simp only [b25i, st25]
        simp -implicitDefEqProofs (disch := first | omega | (apply calm_by; decide)) only [List.cons_append, List.nil_append, Ev_seq, Ev_region, Ev_skip, Ev_exit, Ev_ret, Ev_block, Ev_cond, Ev_ghost, Ev_draw_calm, GoOn_cmp, GoOn_nil, GoOn_thn, GoOn_thn_e, GoOn_thn_r, GoOn_blk, GoOn_blk_e, GoOn_blk_r, onN_n, onN_e, onN_r, Round_n, Round_e, Round_r, EvC_t, EvC_f, EvW_t, EvW_f, EvR_some, EvN_some, EvO_cons, EvO_nil, wanted, exec, put, passed, opd,
    List.length_cons, List.length_nil, Nat.zero_add, Nat.reduceAdd, List.replicate_succ, List.replicate_zero, List.set_cons_zero, List.set_cons_succ, List.getD_cons_zero, List.getD_cons_succ, Option.map_some, Option.map_none, List.map_cons, List.map_nil,
    bin_add, bin_sub, bin_mul, bin_eql, bin_neq, bin_lss, bin_leq, bin_gtr, bin_geq, bin_quo_nat, bin_rem_nat, bin_or_hi, bin_shr32, bin_shl32, lenV_slice, lenV_ref, ne_eq, not_false_eq_true, beq_true, beq_false, Bool.not_true, Bool.not_false, wrap_i64, wrap_u64, dec_t, dec_f, ite_t, ite_f, ibeq_t, ibeq_f, ibne_t, ibne_f, index_slice, index_ref, slice_slice_hi, slice_ref_hi, Int.natCast_add, Int.cast_ofNat_Int, Int.add_sub_cancel, Int.toNat_natCast, Int.toNat_natCast_add_one, Int.reduceToNat, Nat.mul_one, load_dg, shareL_dg, adoptV, if_true, if_false, ite_true, ite_false, Bool.true_eq, Bool.false_eq_true, beq_self_eq_true, reduceCtorEq, reduceIte, Nat.reduceMul, Nat.reduceSub, Nat.reduceLT, Nat.reduceLeDiff, Nat.reduceEqDiff, c1', i3, g5, hld, hzc, c3']
        obtain ⟨p1, p2, p3⟩ := hbrk (by omega)
        exact hK (g - 1) (r + top) _ p1 p2 p3 ⟨_, by simp only [st25, el, Int.natCast_add]; rfl⟩
    · have p3 := F2 g c1 (by omega)
      clear F1 F2 less small brk hV2 e1
      simp only [b25i, st25]
      simp -implicitDefEqProofs (disch := first | omega | (apply calm_by; decide)) only [List.cons_append, List.nil_append, Ev_seq, Ev_region, Ev_skip, Ev_exit, Ev_ret, Ev_block, Ev_cond, Ev_ghost, Ev_draw_calm, GoOn_cmp, GoOn_nil, GoOn_thn, GoOn_thn_e, GoOn_thn_r, GoOn_blk, GoOn_blk_e, GoOn_blk_r, onN_n, onN_e, onN_r, Round_n, Round_e, Round_r, EvC_t, EvC_f, EvW_t, EvW_f, EvR_some, EvN_some, EvO_cons, EvO_nil, wanted, exec, put, passed, opd,
    List.length_cons, List.length_nil, Nat.zero_add, Nat.reduceAdd, List.replicate_succ, List.replicate_zero, List.set_cons_zero, List.set_cons_succ, List.getD_cons_zero, List.getD_cons_succ, Option.map_some, Option.map_none, List.map_cons, List.map_nil,
    bin_add, bin_sub, bin_mul, bin_eql, bin_neq, bin_lss, bin_leq, bin_gtr, bin_geq, bin_quo_nat, bin_rem_nat, bin_or_hi, bin_shr32, bin_shl32, lenV_slice, lenV_ref, ne_eq, not_false_eq_true, beq_true, beq_false, Bool.not_true, Bool.not_false, wrap_i64, wrap_u64, dec_t, dec_f, ite_t, ite_f, ibeq_t, ibeq_f, ibne_t, ibne_f, index_slice, index_ref, slice_slice_hi, slice_ref_hi, Int.natCast_add, Int.cast_ofNat_Int, Int.add_sub_cancel, Int.toNat_natCast, Int.toNat_natCast_add_one, Int.reduceToNat, Nat.mul_one, load_dg, shareL_dg, adoptV, if_true, if_false, ite_true, ite_false, Bool.true_eq, Bool.false_eq_true, beq_self_eq_true, reduceCtorEq, reduceIte, Nat.reduceMul, Nat.reduceSub, Nat.reduceLT, Nat.reduceLeDiff, Nat.reduceEqDiff, c1', i3, g5, hld, hzc]
      exact hK g r _ c1 hqg p3 ⟨_, by simp only [st25]; rfl⟩
  · have hlt : q < g := by omega
    have el := e1 hlt
    have hless := less hlt
    have hbrk := brk hlt
    have hg64 : (g : Int) ≤ 18446744073709551615 := by omega
    have c1' : ((g : Int) / 4294967296 == 0) = false := ibeq_f _ _ (by omega)
    have c1'' : ((g : Int) / 4294967296 != 0) = true := ibne_t _ _ (by omega)
    clear F1 F2 less small brk hV2 e1
    by_cases c3 : r + top < 4294967296
    · have c3' : ((r : Int) + (top : Int)) / 4294967296 = 0 := by omega
      simp only [b25i, st25]
      simp -implicitDefEqProofs (disch := first | omega | (apply calm_by; decide)) only [List.cons_append, List.nil_append, Ev_seq, Ev_region, Ev_skip, Ev_exit, Ev_ret, Ev_block, Ev_cond, Ev_ghost, Ev_draw_calm, GoOn_cmp, GoOn_nil, GoOn_thn, GoOn_thn_e, GoOn_thn_r, GoOn_blk, GoOn_blk_e, GoOn_blk_r, onN_n, onN_e, onN_r, Round_n, Round_e, Round_r, EvC_t, EvC_f, EvW_t, EvW_f, EvR_some, EvN_some, EvO_cons, EvO_nil, wanted, exec, put, passed, opd,
    List.length_cons, List.length_nil, Nat.zero_add, Nat.reduceAdd, List.replicate_succ, List.replicate_zero, List.set_cons_zero, List.set_cons_succ, List.getD_cons_zero, List.getD_cons_succ, Option.map_some, Option.map_none, List.map_cons, List.map_nil,
    bin_add, bin_sub, bin_mul, bin_eql, bin_neq, bin_lss, bin_leq, bin_gtr, bin_geq, bin_quo_nat, bin_rem_nat, bin_or_hi, bin_shr32, bin_shl32, lenV_slice, lenV_ref, ne_eq, not_false_eq_true, beq_true, beq_false, Bool.not_true, Bool.not_false, wrap_i64, wrap_u64, dec_t, dec_f, ite_t, ite_f, ibeq_t, ibeq_f, ibne_t, ibne_f, index_slice, index_ref, slice_slice_hi, slice_ref_hi, Int.natCast_add, Int.cast_ofNat_Int, Int.add_sub_cancel, Int.toNat_natCast, Int.toNat_natCast_add_one, Int.reduceToNat, Nat.mul_one, load_dg, shareL_dg, adoptV, if_true, if_false, ite_true, ite_false, Bool.true_eq, Bool.false_eq_true, beq_self_eq_true, reduceCtorEq, reduceIte, Nat.reduceMul, Nat.reduceSub, Nat.reduceLT, Nat.reduceLeDiff, Nat.reduceEqDiff, c1', c1'', i3, hld, c3']
      refine ⟨g - 1, by omega, r + top, hless, c3, by omega, ?_⟩
      simp only [st25, norm, keepLive, compact, List.range_zero, List.range_succ, List.nil_append, List.cons_append, List.append_nil, List.contains_cons, List.contains_nil, Bool.or_false, Bool.or_true, Bool.false_or, Bool.true_or, Nat.reduceBEq, beq_self_eq_true, idsL, ids, addId, List.filter_cons, List.filter_nil, decide_true, decide_false, List.map_cons, List.map_nil, maskD, within, withinL, mapD, mapL, subRows, getRow, List.idxOf_cons, List.idxOf_nil, cond_true, cond_false, Bool.and_true, Bool.true_and, if_true, if_false, Bool.false_eq_true, List.length_cons, List.length_nil, Nat.zero_add, Nat.reduceAdd, Nat.reduceLT, List.getD_cons_zero, List.getD_cons_succ, List.set_cons_zero, List.set_cons_succ, reduceIte, reduceCtorEq, el, Int.natCast_add]
    · have c3' : ((r : Int) + (top : Int)) / 4294967296 = 1 := by omega
      simp only [b25i, st25]
      simp -implicitDefEqProofs (disch := first | omega | (apply calm_by; decide)) only [List.cons_append, List.nil_append, Ev_seq, Ev_region, Ev_skip, Ev_exit, Ev_ret, Ev_block, Ev_cond, Ev_ghost, Ev_draw_calm, GoOn_cmp, GoOn_nil, GoOn_thn, GoOn_thn_e, GoOn_thn_r, GoOn_blk, GoOn_blk_e, GoOn_blk_r, onN_n, onN_e, onN_r, Round_n, Round_e, Round_r, EvC_t, EvC_f, EvW_t, EvW_f, EvR_some, EvN_some, EvO_cons, EvO_nil, wanted, exec, put, passed, opd,
    List.length_cons, List.length_nil, Nat.zero_add, Nat.reduceAdd, List.replicate_succ, List.replicate_zero, List.set_cons_zero, List.set_cons_succ, List.getD_cons_zero, List.getD_cons_succ, Option.map_some, Option.map_none, List.map_cons, List.map_nil,
    bin_add, bin_sub, bin_mul, bin_eql, bin_neq, bin_lss, bin_leq, bin_gtr, bin_geq, bin_quo_nat, bin_rem_nat, bin_or_hi, bin_shr32, bin_shl32, lenV_slice, lenV_ref, ne_eq, not_false_eq_true, beq_true, beq_false, Bool.not_true, Bool.not_false, wrap_i64, wrap_u64, dec_t, dec_f, ite_t, ite_f, ibeq_t, ibeq_f, ibne_t, ibne_f, index_slice, index_ref, slice_slice_hi, slice_ref_hi, Int.natCast_add, Int.cast_ofNat_Int, Int.add_sub_cancel, Int.toNat_natCast, Int.toNat_natCast_add_one, Int.reduceToNat, Nat.mul_one, load_dg, shareL_dg, adoptV, if_true, if_false, ite_true, ite_false, Bool.true_eq, Bool.false_eq_true, beq_self_eq_true, reduceCtorEq, reduceIte, Nat.reduceMul, Nat.reduceSub, Nat.reduceLT, Nat.reduceLeDiff, Nat.reduceEqDiff, c1', c1'', i3, hld, c3']
      obtain ⟨p1, p2, p3⟩ := hbrk (by omega)
      exact hK (g - 1) (r + top) _ p1 p2 p3 ⟨_, by simp only [st25, el, Int.natCast_add]; rfl⟩
end
end Av
namespace Av
open Go
set_option linter.unusedSimpArgs false
set_option linter.unusedVariables false
section
variable {T : Nat → Option Fun}
def b25d : ACode := (.region [⟨.move (.v 11), none, none⟩,
     ⟨.bin .sub (.t 0) (.c (.int .i64 1)), none, none⟩,
     ⟨.assign .asis (.t 1), (some 11), none⟩])
def b25c : ACode := (.seq (.seq (.region [⟨.move (.v 6), none, none⟩,
     ⟨.move (.v 11), none, none⟩,
     ⟨.move (.v 11), none, none⟩,
     ⟨.move (.v 4), none, none⟩,
     ⟨.bin .add (.t 2) (.t 3), none, none⟩,
     ⟨.bin .add (.t 4) (.c (.int .i64 1)), none, none⟩,
     ⟨.slice 1 (.t 0) (some (.t 1)) (some (.t 5)), none, none⟩,
     ⟨.move (.v 7), none, none⟩,
     ⟨.move (.v 13), none, none⟩,
     ⟨.call 28 [.asis, .asis, .asis] .share [(.t 6), (.t 7), (.t 8)], none, none⟩])
   (.cond (.t 9)
    (.seq (.region [⟨.move (.v 13), none, none⟩,
      ⟨.bin .sub (.t 0) (.c (.int .u64 1)), none, none⟩,
      ⟨.assign .asis (.t 1), (some 13), none⟩])
    (.region [⟨.move (.v 6), none, none⟩,
      ⟨.move (.v 11), none, none⟩,
      ⟨.move (.v 11), none, none⟩,
      ⟨.move (.v 4), none, none⟩,
      ⟨.bin .add (.t 2) (.t 3), none, none⟩,
      ⟨.bin .add (.t 4) (.c (.int .i64 1)), none, none⟩,
      ⟨.slice 1 (.t 0) (some (.t 1)) (some (.t 5)), none, none⟩,
      ⟨.move (.v 7), none, none⟩,
      ⟨.call 29 [.asis, .asis] .share [(.t 6), (.t 7)], none, none⟩]))
    .skip))
   (.region [⟨.move (.v 8), none, none⟩,
     ⟨.move (.v 11), none, none⟩,
     ⟨.move (.v 13), none, none⟩,
     ⟨.conv .u32 (.t 2), none, none⟩,
     ⟨.indexAddr 1 (.t 0) (.t 1), none, none⟩,
     ⟨.store true 1 (.t 4) (.t 3), none, none⟩]))

set_option maxHeartbeats 2000000 in
/-- The guess is taken away, and given back if it was one too many. -/
theorem after_ok (h : Has1 T) {Qf : AExit → St → Prop} (k s L j top next q g r : Nat) (P W S V Q : List Nat) (ts0 : List D)
    (hP : P.length = j) (hW : W.length = k + 3) (hV : V.length = k + 2) (hQ : Q.length = L + 1) (hS : (P ++ W ++ S).length = L + (k + 2) + 1)
    (dW : Dig W) (dV : Dig V) (hL : L + k < 2 ^ 39) (hj : j ≤ L) (g1 : g < 4294967296) (g2 : q ≤ g) (g3 : g ≤ q + 1) (hq1 : q * val V ≤ val W) (hq2 : val W < (q + 1) * val V)
    (hK : ∀ (s' : St), (∃ ts v13, s' = st25 k s L j top next V .undef v13 (.int .u64 r) ts [some ⟨dg (P ++ digsN (k + 3) (val W - q * val V) ++ S), false, 0, 0⟩, some ⟨dg (Q.set j q), false, 0, 0⟩] ((j : Int) - 1)) → Qf .normal s') :
    Ev T b25c (st25 k s L j top next V .undef (.int .u64 g) (.int .u64 r) ts0 [some ⟨dg (P ++ W ++ S), false, 0, 0⟩, some ⟨dg Q, false, 0, 0⟩] j) [.blk 1, .thn b25d] Qf := by
  have t1 := subScaled_ok h P W S V j (k + 2) g hP.symm hW hV dW dV g1 (by omega) (by omega)
  have i4 : ((j : Int) + ((k : Int) + 2) + 1).toNat - j = k + 2 + 1 := by omega
  have hst : ∀ (R : Option Row), storeV [R, some ⟨dg Q, false, 0, 0⟩] true 1 (.addr 1 [] 0 j) (.int .u32 (q : Nat)) = some [R, some ⟨dg (Q.set j q), false, 0, 0⟩] := fun R => by
    rw [store_dg _ 1 0 j Q q rfl (by omega) (by omega)]; rfl
  by_cases c : g = q
  · subst c
    have c2 : ¬ val W < g * val V := by omega
    rw [if_neg c2, decide_eq_false c2, Nat.add_zero] at t1
    simp only [b25c, b25d, st25]
    simp -implicitDefEqProofs (disch := first | omega | (apply calm_by; decide)) only [List.cons_append, List.nil_append, Ev_seq, Ev_region, Ev_skip, Ev_exit, Ev_ret, Ev_block, Ev_cond, Ev_ghost, Ev_draw_calm, GoOn_cmp, GoOn_nil, GoOn_thn, GoOn_thn_e, GoOn_thn_r, GoOn_blk, GoOn_blk_e, GoOn_blk_r, onN_n, onN_e, onN_r, Round_n, Round_e, Round_r, EvC_t, EvC_f, EvW_t, EvW_f, EvR_some, EvN_some, EvO_cons, EvO_nil, wanted, exec, put, passed, opd,
    List.length_cons, List.length_nil, Nat.zero_add, Nat.reduceAdd, List.replicate_succ, List.replicate_zero, List.set_cons_zero, List.set_cons_succ, List.getD_cons_zero, List.getD_cons_succ, Option.map_some, Option.map_none, List.map_cons, List.map_nil,
    bin_add, bin_sub, bin_mul, bin_eql, bin_neq, bin_lss, bin_leq, bin_gtr, bin_geq, bin_quo_nat, bin_rem_nat, bin_or_hi, bin_shr32, bin_shl32, lenV_slice, lenV_ref, ne_eq, not_false_eq_true, beq_true, beq_false, Bool.not_true, Bool.not_false, wrap_i64, wrap_u64, dec_t, dec_f, ite_t, ite_f, ibeq_t, ibeq_f, ibne_t, ibne_f, index_slice, index_ref, slice_slice_hi, slice_ref_hi, Int.natCast_add, Int.cast_ofNat_Int, Int.add_sub_cancel, Int.toNat_natCast, Int.toNat_natCast_add_one, Int.reduceToNat, Nat.mul_one, load_dg, shareL_dg, adoptV, if_true, if_false, ite_true, ite_false, Bool.true_eq, Bool.false_eq_true, beq_self_eq_true, reduceCtorEq, reduceIte, Nat.reduceMul, Nat.reduceSub, Nat.reduceLT, Nat.reduceLeDiff, Nat.reduceEqDiff, callV, takeArgs, takeV, lendArgs, lendV, lendVs, List.headD_cons, List.headD_nil, List.tail_cons, List.tail_nil, List.contains_cons, List.contains_nil, m_al, m_sl, m_ol, m_ll, m_la, m_ls, m_lo, Bool.or_false, Bool.or_true, Bool.false_or, Bool.true_or, idsL, ids, madeV, shareV, shareVs, adoptV, adoptVs, ownOnly, ownOnlyL, Bool.true_and, Bool.and_true, Bool.and_false, Bool.false_and, List.isEmpty_nil, List.isEmpty_cons, giveV, giveVs, Bool.not_false, Bool.not_true, reduceCtorEq, Bool.false_eq_true, if_false, if_true, norm, keepLive, compact, List.range_zero, List.range_succ, List.nil_append, List.cons_append, List.append_nil, List.contains_cons, List.contains_nil, Bool.or_false, Bool.or_true, Bool.false_or, Bool.true_or, Nat.reduceBEq, beq_self_eq_true, idsL, ids, addId, List.filter_cons, List.filter_nil, decide_true, decide_false, List.map_cons, List.map_nil, maskD, within, withinL, mapD, mapL, subRows, getRow, List.idxOf_cons, List.idxOf_nil, cond_true, cond_false, Bool.and_true, Bool.true_and, if_true, if_false, Bool.false_eq_true, List.length_cons, List.length_nil, Nat.zero_add, Nat.reduceAdd, Nat.reduceLT, List.getD_cons_zero, List.getD_cons_succ, List.set_cons_zero, List.set_cons_succ, reduceIte, reduceCtorEq, slice_ref_lohi, i4, t1, wrap_u32, hst, writeBack]
    exact hK _ ⟨_, _, rfl⟩
  · have c1 : g = q + 1 := by omega
    subst c1
    rw [if_pos hq2, decide_eq_true hq2] at t1
    have v0 := val_lt dW
    rw [hW] at v0
    have vV : val V < 4294967296 ^ (k + 2 + 1) := by
      have := val_lt dV
      rw [hV] at this
      rw [Nat.pow_succ]; omega
    have q3 : (q + 1) * val V = q * val V + val V := by rw [Nat.add_mul, Nat.one_mul]
    have v1 : val W + 4294967296 ^ (k + 3) - (q + 1) * val V < 4294967296 ^ (k + 3) := by
      show _ < 4294967296 ^ (k + 2 + 1)
      show val W + 4294967296 ^ (k + 2 + 1) - _ < _
      omega
    have v2 := val_digsN _ _ v1
    have t2 := addBack_ok h P (digsN (k + 3) (val W + 4294967296 ^ (k + 3) - (q + 1) * val V)) S V j (k + 2) hP.symm (digsN_length _ _) hV (dig_digsN _ _) dV (by omega) (by omega)
    have v3 : (val W + 4294967296 ^ (k + 3) - (q + 1) * val V + val V) % 4294967296 ^ (k + 2 + 1) = val W - q * val V := by
      have hw : val W - q * val V < 4294967296 ^ (k + 2 + 1) := Nat.lt_of_le_of_lt (Nat.sub_le _ _) v0
      have hx : val W + 4294967296 ^ (k + 3) - (q + 1) * val V + val V = val W - q * val V + 4294967296 ^ (k + 2 + 1) := by
        rw [q3]
        have v0' : val W < 4294967296 ^ (k + 2 + 1) := v0
        rw [q3] at hq2
        show val W + 4294967296 ^ (k + 2 + 1) - _ + _ = _
        clear v1 v2 t1 t2 hw v0
        generalize 4294967296 ^ (k + 2 + 1) = e at *
        generalize q * val V = a at *
        generalize val V = b at *
        generalize val W = c at *
        omega
      rw [hx, Nat.add_mod_right, Nat.mod_eq_of_lt hw]
    rw [v2, v3] at t2
    simp only [Int.natCast_add, Int.cast_ofNat_Int] at t1
    simp only [b25c, b25d, st25]
    simp -implicitDefEqProofs (disch := first | omega | (apply calm_by; decide)) only [List.cons_append, List.nil_append, Ev_seq, Ev_region, Ev_skip, Ev_exit, Ev_ret, Ev_block, Ev_cond, Ev_ghost, Ev_draw_calm, GoOn_cmp, GoOn_nil, GoOn_thn, GoOn_thn_e, GoOn_thn_r, GoOn_blk, GoOn_blk_e, GoOn_blk_r, onN_n, onN_e, onN_r, Round_n, Round_e, Round_r, EvC_t, EvC_f, EvW_t, EvW_f, EvR_some, EvN_some, EvO_cons, EvO_nil, wanted, exec, put, passed, opd,
    List.length_cons, List.length_nil, Nat.zero_add, Nat.reduceAdd, List.replicate_succ, List.replicate_zero, List.set_cons_zero, List.set_cons_succ, List.getD_cons_zero, List.getD_cons_succ, Option.map_some, Option.map_none, List.map_cons, List.map_nil,
    bin_add, bin_sub, bin_mul, bin_eql, bin_neq, bin_lss, bin_leq, bin_gtr, bin_geq, bin_quo_nat, bin_rem_nat, bin_or_hi, bin_shr32, bin_shl32, lenV_slice, lenV_ref, ne_eq, not_false_eq_true, beq_true, beq_false, Bool.not_true, Bool.not_false, wrap_i64, wrap_u64, dec_t, dec_f, ite_t, ite_f, ibeq_t, ibeq_f, ibne_t, ibne_f, index_slice, index_ref, slice_slice_hi, slice_ref_hi, Int.natCast_add, Int.cast_ofNat_Int, Int.add_sub_cancel, Int.toNat_natCast, Int.toNat_natCast_add_one, Int.reduceToNat, Nat.mul_one, load_dg, shareL_dg, adoptV, if_true, if_false, ite_true, ite_false, Bool.true_eq, Bool.false_eq_true, beq_self_eq_true, reduceCtorEq, reduceIte, Nat.reduceMul, Nat.reduceSub, Nat.reduceLT, Nat.reduceLeDiff, Nat.reduceEqDiff, callV, takeArgs, takeV, lendArgs, lendV, lendVs, List.headD_cons, List.headD_nil, List.tail_cons, List.tail_nil, List.contains_cons, List.contains_nil, m_al, m_sl, m_ol, m_ll, m_la, m_ls, m_lo, Bool.or_false, Bool.or_true, Bool.false_or, Bool.true_or, idsL, ids, madeV, shareV, shareVs, adoptV, adoptVs, ownOnly, ownOnlyL, Bool.true_and, Bool.and_true, Bool.and_false, Bool.false_and, List.isEmpty_nil, List.isEmpty_cons, giveV, giveVs, Bool.not_false, Bool.not_true, reduceCtorEq, Bool.false_eq_true, if_false, if_true, norm, keepLive, compact, List.range_zero, List.range_succ, List.nil_append, List.cons_append, List.append_nil, List.contains_cons, List.contains_nil, Bool.or_false, Bool.or_true, Bool.false_or, Bool.true_or, Nat.reduceBEq, beq_self_eq_true, idsL, ids, addId, List.filter_cons, List.filter_nil, decide_true, decide_false, List.map_cons, List.map_nil, maskD, within, withinL, mapD, mapL, subRows, getRow, List.idxOf_cons, List.idxOf_nil, cond_true, cond_false, Bool.and_true, Bool.true_and, if_true, if_false, Bool.false_eq_true, List.length_cons, List.length_nil, Nat.zero_add, Nat.reduceAdd, Nat.reduceLT, List.getD_cons_zero, List.getD_cons_succ, List.set_cons_zero, List.set_cons_succ, reduceIte, reduceCtorEq, slice_ref_lohi, i4, t1, t2, wrap_u32, hst, writeBack]
    exact hK _ ⟨_, _, rfl⟩
end
end Av

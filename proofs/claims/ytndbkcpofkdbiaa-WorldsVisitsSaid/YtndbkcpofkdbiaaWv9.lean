/- A part of the proof: WorldsVisits: for every input the law returns true and the argument reads behind the call as it read before. Conditions: none. -/
import Derived.Test.YtndbkcpofkdbiaaWv5
import Derived.Test.YtndbkcpofkdbiaaWv2
import Derived.KernelRfl
set_option linter.all false
namespace Av
open Go
set_option linter.unusedSimpArgs false
set_option linter.unusedVariables false
/-- The blocks of a space of fractions 0; what a function sees of the space. -/
def blks (ks : List Nat) : List D := ks.map blk
def sp (ks : List Nat) : D := .agg [.slice false 1 ks.length (blks ks)]
def Small (ks : List Nat) : Prop := ∀ k ∈ ks, k ≤ 4
theorem Small.get {ks : List Nat} (h : Small ks) (i : Nat) : ks.getD i 0 ≤ 4 := by
  rcases Nat.lt_or_ge i ks.length with h1 | h1
  · rw [List.getD, List.getElem?_eq_getElem h1]; exact h _ (List.getElem_mem h1)
  · rw [List.getD, List.getElem?_eq_none h1]; exact Nat.zero_le _
/-- What the kernel tells of Sign and Remainder. -/
structure WF (T : Nat → Option Fun) : Prop where
  s0 : callW T 4 [.agg [.bool false, .slice false 1 0 [], .slice false 1 0 []]] [] = some (.int .i64 0, [])
  s1 : callW T 4 [.agg [.bool false, .slice false 1 1 [.int .u32 1], .slice false 1 1 [.int .u32 1]]] [] = some (.int .i64 1, [])
  known : callW T 44 [] [] = some (.bool true, [])
  rem : ∀ k, k ≤ 4 → callW T 10 [.agg [blk k]] [] = some (.agg [.bool false, .slice true 1 1 [.int .u32 1], .slice true 1 1 [.int .u32 1]], [])

theorem loadV_addr (rows : Rows) (agg : Bool) (k r : Nat) (path : List Nat) (ver off : Nat) : loadV rows agg k (.addr r path ver off) = match cellsAt rows r path ver with
    | none => none
    | some (row, cells) =>
      if off + k ≤ cells.length then
        if agg then some (.agg (borrowL r path row.ver off (cut cells off k))) else if k = 1 then (cells[off]?).map (borrow r path row.ver off) else none
      else none := rfl
section
variable {T : Nat → Option Fun}
theorem lend_slice0 (rows : Rows) (k n : Nat) (cs : List D) : lendV rows (.slice false k n cs) = some (.slice false k n (shareL cs)) := by
  simp [lendV]

end
end Av
namespace Av
open Go
set_option linter.unusedSimpArgs false
set_option linter.unusedVariables false
/-- The number of worlds. -/
def cnt : List Nat → Nat
  | [] => 1
  | k :: ks => (k + 1) * cnt ks
theorem cnt_append (a b : List Nat) : cnt (a ++ b) = cnt a * cnt b := by
  induction a with
  | nil => simp [cnt]
  | cons x a ih => simp only [List.cons_append, cnt, ih, Nat.mul_assoc]
theorem cnt_take (ks : List Nat) (i : Nat) (h : i < ks.length) : cnt (ks.take (i + 1)) = cnt (ks.take i) * (ks.getD i 0 + 1) := by
  rw [take_get ks i h, cnt_append]; simp [cnt]
theorem cnt_pos : ∀ ks, 0 < cnt ks
  | [] => by simp [cnt]
  | k :: ks => Nat.mul_pos (by omega) (cnt_pos ks)
theorem cnt_le : ∀ {ks : List Nat}, Small ks → cnt ks ≤ 5 ^ ks.length
  | [], _ => by simp [cnt]
  | k :: ks, h => by
    have h1 := cnt_le (ks := ks) (fun x hx => h x (by simp [hx]))
    have h2 := h k (by simp)
    rw [cnt, List.length_cons, Nat.pow_succ, Nat.mul_comm (5 ^ _)]
    exact Nat.mul_le_mul (by omega) h1
theorem Small.take {ks : List Nat} (h : Small ks) (i : Nat) : Small (ks.take i) := fun x hx => h x (List.mem_of_mem_take hx)
theorem Small.drop {ks : List Nat} (h : Small ks) (i : Nat) : Small (ks.drop i) := fun x hx => h x (List.mem_of_mem_drop hx)
theorem cnt_lt {ks : List Nat} (h : Small ks) (hl : ks.length ≤ 63) : cnt ks < 4294967296 ^ 5 := by
  have h1 := cnt_le h
  have h2 : 5 ^ ks.length ≤ 5 ^ 63 := Nat.pow_le_pow_right (by omega) hl
  have h3 : 5 ^ 63 < 4294967296 ^ 5 := by decide
  omega
theorem take_dg_self (a : List Nat) : (dg a).take a.length = dg a := by rw [List.take_of_length_le]; rw [dg_length]; exact Nat.le_refl _

theorem ownOnlyL_dg : ∀ a : List Nat, ownOnlyL (dg a) = true
  | [] => rfl
  | x :: a => by
    have := ownOnlyL_dg a
    simp only [dg] at this
    simp only [dg, List.map_cons, ownOnlyL, ownOnly, this, Bool.and_self]
section
variable {T : Nat → Option Fun}
end
end Av
namespace Av
open Go
section
variable {T : Nat → Option Fun}
/-! Rules for regions whose order is drawn. -/
def EvD (T : Nat → Option Fun) (ks : List Nat) (b i : Nat) (ops : List AOper) (s : St) (fp : List (List Nat)) (K : St → List (List Nat) → Prop) : Prop := EvX (runD (callW T) ks b i ops (s, fp)) fun x => K x.1 x.2
def EvDR (T : Nat → Option Fun) (ks : List Nat) (b i : Nat) (x : Option (D × Rows)) (dst : Option Nat) (ops : List AOper) (s : St) (fp : List (List Nat)) (K : St → List (List Nat) → Prop) : Prop := EvX x fun x => EvD T ks b (i + 1) ops (put i dst x.1 x.2 s) fp K
theorem EvD_nil (ks : List Nat) (b i : Nat) (s : St) (fp : List (List Nat)) (K : St → List (List Nat) → Prop) : EvD T ks b i [] s fp K = K s fp := rfl
theorem EvD_cons (ks : List Nat) (b i : Nat) (op : AOp) (dst : Option Nat) (ops : List AOper) (s : St) (fp : List (List Nat)) (K : St → List (List Nat) → Prop) :
    EvD T ks b i (⟨op, dst, none⟩ :: ops) s fp K = EvDR T ks b i (execD (callW T) ks b i s.vars s.ts s.rows op) dst ops s (fp.set i (opIds s.vars s.ts op)) K := by
  unfold EvD EvDR
  simp only [runD, stepD, wanted]
  cases execD (callW T) ks b i s.vars s.ts s.rows op with
  | none => rfl
  | some x => rfl
theorem EvDR_some (ks : List Nat) (b i : Nat) (v : D) (rows : Rows) (dst : Option Nat) (ops : List AOper) (s : St) (fp : List (List Nat)) (K : St → List (List Nat) → Prop) :
    EvDR T ks b i (some (v, rows)) dst ops s fp K = EvD T ks b (i + 1) ops (put i dst v rows s) fp K := rfl
def DEnd (T : Nat → Option Fun) (ops : List AOper) (ps : List (Nat × Nat)) (ks : List Nat) (b : Nat) (k : List Todo) (Q : AExit → St → Prop) (s : St) (fp : List (List Nat)) : Prop :=
  ps.all (apart ops fp ks b) = true ∧ GoOn T Q k .normal (compact s)
theorem Ev_drawn (ops : List AOper) (ps : List (Nat × Nat)) (ks : List Nat) (st : St) (k : List Todo) (Q : AExit → St → Prop) :
    Ev T (.draw ops ps ks) st k Q = EvD T ks st.rows.length 0 ops { st with ts := List.replicate ops.length .undef, rows := st.rows ++ List.replicate ks.sum none } (List.replicate ops.length []) (DEnd T ops ps ks st.rows.length k Q) := by
  rw [Ev_draw]
  unfold EvN EvD drawn
  cases runD (callW T) ks st.rows.length 0 ops ({ st with ts := List.replicate ops.length .undef, rows := st.rows ++ List.replicate ks.sum none }, List.replicate ops.length []) with
  | none => rfl
  | some x =>
    simp only [EvX_some, DEnd]
    by_cases h : ps.all (apart ops x.2 ks st.rows.length) = true
    · rw [if_pos h, EvX_some]; simp only [h, true_and]
    · rw [if_neg h]; simp [h, EvX]
variable {callF : CallF} {ks : List Nat} {b i : Nat} {vars ts : List D} {rows : Rows}
theorem xd_move (x : Opd) : execD callF ks b i vars ts rows (.move x) = exec callF vars ts rows (.move x) := rfl
theorem xd_assign (x : Opd) : execD callF ks b i vars ts rows (.assign .asis x) = exec callF vars ts rows (.assign .asis x) := rfl
theorem xd_bin (o : BinOp) (x y : Opd) : execD callF ks b i vars ts rows (.bin o x y) = exec callF vars ts rows (.bin o x y) := rfl
theorem xd_conv (k : IntKind) (x : Opd) : execD callF ks b i vars ts rows (.conv k x) = exec callF vars ts rows (.conv k x) := rfl
theorem xd_field (n : Nat) (x : Opd) : execD callF ks b i vars ts rows (.fieldAddr n x) = exec callF vars ts rows (.fieldAddr n x) := rfl
theorem xd_index (n : Nat) (x y : Opd) : execD callF ks b i vars ts rows (.indexAddr n x y) = exec callF vars ts rows (.indexAddr n x y) := rfl
theorem xd_load (a : Bool) (n : Nat) (x : Opd) : execD callF ks b i vars ts rows (.load .asis a n x) = exec callF vars ts rows (.load .asis a n x) := rfl
theorem xd_len (s : Bool) (x : Opd) : execD callF ks b i vars ts rows (.len s x) = exec callF vars ts rows (.len s x) := rfl
theorem xd_extract (n : Nat) (x : Opd) : execD callF ks b i vars ts rows (.extract n x) = exec callF vars ts rows (.extract n x) := rfl
theorem xd_build (z : List D) (ps : List (Nat × Nat × Opd)) : execD callF ks b i vars ts rows (.build z ps) = exec callF vars ts rows (.build z ps) := rfl
theorem xd_call (g : Nat) (ms : List Mode) (m : Mode) (xs : List Opd) : execD callF ks b i vars ts rows (.call g ms m xs) = execAt callF (opIds vars ts (.call g ms m xs)) (slotsAt b ks i) vars ts rows (.call g ms m xs) := by
  unfold execD
  rw [if_pos]
  simp only [grows, touch]; split <;> rfl
theorem xd_makeSlice (m : Mode) (z : List D) (n : Nat) (x y : Opd) : execD callF ks b i vars ts rows (.makeSlice m z n x y) = execAt callF (opIds vars ts (.makeSlice m z n x y)) (slotsAt b ks i) vars ts rows (.makeSlice m z n x y) := rfl
theorem xd_buildSlice (m : Mode) (z : List D) (n : Nat) (ps : List (Nat × Opd)) : execD callF ks b i vars ts rows (.buildSlice m z n ps) = execAt callF (opIds vars ts (.buildSlice m z n ps)) (slotsAt b ks i) vars ts rows (.buildSlice m z n ps) := rfl
theorem xd_append (s : Bool) (k n : Nat) (t : Bool) (x y : Opd) : execD callF ks b i vars ts rows (.append s k n t x y) = execAt callF (opIds vars ts (.append s k n t x y)) (slotsAt b ks i) vars ts rows (.append s k n t x y) := rfl
theorem xd_store (s : Bool) (k : Nat) (x y : Opd) : execD callF ks b i vars ts rows (.store s k x y) = execAt callF (opIds vars ts (.store s k x y)) (slotsAt b ks i) vars ts rows (.store s k x y) := rfl
end
end Av
namespace Av
open Go
set_option linter.unusedSimpArgs false
set_option linter.unusedVariables false
/-- A world of a space. -/
def InW (ks : List Nat) (w : List Int) : Prop := w.length = ks.length ∧ ∀ i, i < ks.length → -1 ≤ w.getD i 0 ∧ w.getD i 0 < ks.getD i 0
section
variable {T : Nat → Option Fun}
theorem sameWorld_ok (h : Has1 T) (w : List Int) (hl : w.length < 2 ^ 62) : callW T 43 [.slice false 1 w.length (di w), .slice false 1 w.length (di w)] [] = some (.bool true, []) := by
  refine callW_ev (h 43 (.code F.f43) rfl) rfl ?_
  simp only [F.f43, adoptVs, adoptV, List.cons_append, List.nil_append]
  simp -implicitDefEqProofs (disch := first | omega | (apply calm_by; decide)) only [List.cons_append, List.nil_append, Ev_seq, Ev_region, Ev_skip, Ev_exit, Ev_ret, Ev_block, Ev_cond, Ev_ghost, Ev_draw_calm, GoOn_cmp, GoOn_nil, GoOn_thn, GoOn_thn_e, GoOn_thn_r, GoOn_blk, GoOn_blk_e, GoOn_blk_r, onN_n, onN_e, onN_r, Round_n, Round_e, Round_r, EvC_t, EvC_f, EvW_t, EvW_f, EvR_some, EvN_some, EvO_cons, EvO_nil, wanted, exec, put, passed, opd,
    List.length_cons, List.length_nil, Nat.zero_add, Nat.reduceAdd, List.replicate_succ, List.replicate_zero, List.set_cons_zero, List.set_cons_succ, List.getD_cons_zero, List.getD_cons_succ, Option.map_some, Option.map_none, List.map_cons, List.map_nil,
    bin_add, bin_sub, bin_mul, bin_eql, bin_neq, bin_lss, bin_leq, bin_gtr, bin_geq, bin_quo_nat, bin_rem_nat, bin_or_hi, bin_shr32, bin_shl32, lenV_slice, lenV_ref, ne_eq, not_false_eq_true, beq_true, beq_false, Bool.not_true, Bool.not_false, wrap_i64, wrap_u64, dec_t, dec_f, ite_t, ite_f, ibeq_t, ibeq_f, ibne_t, ibne_f, index_slice, index_ref, slice_slice_hi, slice_ref_hi, Int.natCast_add, Int.cast_ofNat_Int, Int.add_sub_cancel, Int.toNat_natCast, Int.toNat_natCast_add_one, Int.reduceToNat, Nat.mul_one, load_dg, shareL_dg, adoptV, if_true, if_false, ite_true, ite_false, Bool.true_eq, Bool.false_eq_true, beq_self_eq_true, reduceCtorEq, reduceIte, Nat.reduceMul, Nat.reduceSub, Nat.reduceLT, Nat.reduceLeDiff, Nat.reduceEqDiff, callV, takeArgs, takeV, lendArgs, lendV, lendVs, List.headD_cons, List.headD_nil, List.tail_cons, List.tail_nil, List.contains_cons, List.contains_nil, m_al, m_sl, m_ol, m_ll, m_la, m_ls, m_lo, Bool.or_false, Bool.or_true, Bool.false_or, Bool.true_or, idsL, ids, madeV, shareV, shareVs, adoptV, adoptVs, ownOnly, ownOnlyL, Bool.true_and, Bool.and_true, Bool.and_false, Bool.false_and, List.isEmpty_nil, List.isEmpty_cons, giveV, giveVs, Bool.not_false, Bool.not_true, reduceCtorEq, Bool.false_eq_true, if_false, if_true]
  refine Ev_loop (fun n st => ∃ i : Nat, i + n = w.length ∧ st = ⟨[.slice false 1 w.length (di w), .slice false 1 w.length (di w), .undef, .int .i64 i], [], [], 0⟩) w.length ⟨0, by omega, ?_⟩ ?_
  · simp only [norm, keepLive, compact, List.range_zero, List.range_succ, List.nil_append, List.cons_append, List.append_nil, List.contains_cons, List.contains_nil, Bool.or_false, Bool.or_true, Bool.false_or, Bool.true_or, Nat.reduceBEq, beq_self_eq_true, idsL, ids, addId, List.filter_cons, List.filter_nil, decide_true, decide_false, List.map_cons, List.map_nil, maskD, within, withinL, mapD, mapL, subRows, getRow, List.idxOf_cons, List.idxOf_nil, cond_true, cond_false, Bool.and_true, Bool.true_and, if_true, if_false, Bool.false_eq_true, List.length_cons, List.length_nil, Nat.zero_add, Nat.reduceAdd, Nat.reduceLT, List.getD_cons_zero, List.getD_cons_succ, List.set_cons_zero, List.set_cons_succ, reduceIte, reduceCtorEq]; rfl
  rintro n st ⟨i, hi, rfl⟩
  cases n with
  | zero => simp -implicitDefEqProofs (disch := first | omega | (apply calm_by; decide)) only [List.cons_append, List.nil_append, Ev_seq, Ev_region, Ev_skip, Ev_exit, Ev_ret, Ev_block, Ev_cond, Ev_ghost, Ev_draw_calm, GoOn_cmp, GoOn_nil, GoOn_thn, GoOn_thn_e, GoOn_thn_r, GoOn_blk, GoOn_blk_e, GoOn_blk_r, onN_n, onN_e, onN_r, Round_n, Round_e, Round_r, EvC_t, EvC_f, EvW_t, EvW_f, EvR_some, EvN_some, EvO_cons, EvO_nil, wanted, exec, put, passed, opd,
    List.length_cons, List.length_nil, Nat.zero_add, Nat.reduceAdd, List.replicate_succ, List.replicate_zero, List.set_cons_zero, List.set_cons_succ, List.getD_cons_zero, List.getD_cons_succ, Option.map_some, Option.map_none, List.map_cons, List.map_nil,
    bin_add, bin_sub, bin_mul, bin_eql, bin_neq, bin_lss, bin_leq, bin_gtr, bin_geq, bin_quo_nat, bin_rem_nat, bin_or_hi, bin_shr32, bin_shl32, lenV_slice, lenV_ref, ne_eq, not_false_eq_true, beq_true, beq_false, Bool.not_true, Bool.not_false, wrap_i64, wrap_u64, dec_t, dec_f, ite_t, ite_f, ibeq_t, ibeq_f, ibne_t, ibne_f, index_slice, index_ref, slice_slice_hi, slice_ref_hi, Int.natCast_add, Int.cast_ofNat_Int, Int.add_sub_cancel, Int.toNat_natCast, Int.toNat_natCast_add_one, Int.reduceToNat, Nat.mul_one, load_dg, shareL_dg, adoptV, if_true, if_false, ite_true, ite_false, Bool.true_eq, Bool.false_eq_true, beq_self_eq_true, reduceCtorEq, reduceIte, Nat.reduceMul, Nat.reduceSub, Nat.reduceLT, Nat.reduceLeDiff, Nat.reduceEqDiff, callV, takeArgs, takeV, lendArgs, lendV, lendVs, List.headD_cons, List.headD_nil, List.tail_cons, List.tail_nil, List.contains_cons, List.contains_nil, m_al, m_sl, m_ol, m_ll, m_la, m_ls, m_lo, Bool.or_false, Bool.or_true, Bool.false_or, Bool.true_or, idsL, ids, madeV, shareV, shareVs, adoptV, adoptVs, ownOnly, ownOnlyL, Bool.true_and, Bool.and_true, Bool.and_false, Bool.false_and, List.isEmpty_nil, List.isEmpty_cons, giveV, giveVs, Bool.not_false, Bool.not_true, reduceCtorEq, Bool.false_eq_true, if_false, if_true, dg_length, take_dg, List.take_length, ends_n, ends_r, results, resVs, resV, giveV, giveVs, shareV, theRow, List.getElem?_cons_zero, List.getElem?_cons_succ, Option.map_some, List.take_zero, List.take_nil, List.take_succ_cons]
  | succ n =>
    have ld := load_di [] w i (by omega)
    simp -implicitDefEqProofs (disch := first | omega | (apply calm_by; decide)) only [List.cons_append, List.nil_append, Ev_seq, Ev_region, Ev_skip, Ev_exit, Ev_ret, Ev_block, Ev_cond, Ev_ghost, Ev_draw_calm, GoOn_cmp, GoOn_nil, GoOn_thn, GoOn_thn_e, GoOn_thn_r, GoOn_blk, GoOn_blk_e, GoOn_blk_r, onN_n, onN_e, onN_r, Round_n, Round_e, Round_r, EvC_t, EvC_f, EvW_t, EvW_f, EvR_some, EvN_some, EvO_cons, EvO_nil, wanted, exec, put, passed, opd,
    List.length_cons, List.length_nil, Nat.zero_add, Nat.reduceAdd, List.replicate_succ, List.replicate_zero, List.set_cons_zero, List.set_cons_succ, List.getD_cons_zero, List.getD_cons_succ, Option.map_some, Option.map_none, List.map_cons, List.map_nil,
    bin_add, bin_sub, bin_mul, bin_eql, bin_neq, bin_lss, bin_leq, bin_gtr, bin_geq, bin_quo_nat, bin_rem_nat, bin_or_hi, bin_shr32, bin_shl32, lenV_slice, lenV_ref, ne_eq, not_false_eq_true, beq_true, beq_false, Bool.not_true, Bool.not_false, wrap_i64, wrap_u64, dec_t, dec_f, ite_t, ite_f, ibeq_t, ibeq_f, ibne_t, ibne_f, index_slice, index_ref, slice_slice_hi, slice_ref_hi, Int.natCast_add, Int.cast_ofNat_Int, Int.add_sub_cancel, Int.toNat_natCast, Int.toNat_natCast_add_one, Int.reduceToNat, Nat.mul_one, load_dg, shareL_dg, adoptV, if_true, if_false, ite_true, ite_false, Bool.true_eq, Bool.false_eq_true, beq_self_eq_true, reduceCtorEq, reduceIte, Nat.reduceMul, Nat.reduceSub, Nat.reduceLT, Nat.reduceLeDiff, Nat.reduceEqDiff, callV, takeArgs, takeV, lendArgs, lendV, lendVs, List.headD_cons, List.headD_nil, List.tail_cons, List.tail_nil, List.contains_cons, List.contains_nil, m_al, m_sl, m_ol, m_ll, m_la, m_ls, m_lo, Bool.or_false, Bool.or_true, Bool.false_or, Bool.true_or, idsL, ids, madeV, shareV, shareVs, adoptV, adoptVs, ownOnly, ownOnlyL, Bool.true_and, Bool.and_true, Bool.and_false, Bool.false_and, List.isEmpty_nil, List.isEmpty_cons, giveV, giveVs, Bool.not_false, Bool.not_true, reduceCtorEq, Bool.false_eq_true, if_false, if_true, norm, keepLive, compact, List.range_zero, List.range_succ, List.nil_append, List.cons_append, List.append_nil, List.contains_cons, List.contains_nil, Bool.or_false, Bool.or_true, Bool.false_or, Bool.true_or, Nat.reduceBEq, beq_self_eq_true, idsL, ids, addId, List.filter_cons, List.filter_nil, decide_true, decide_false, List.map_cons, List.map_nil, maskD, within, withinL, mapD, mapL, subRows, getRow, List.idxOf_cons, List.idxOf_nil, cond_true, cond_false, Bool.and_true, Bool.true_and, if_true, if_false, Bool.false_eq_true, List.length_cons, List.length_nil, Nat.zero_add, Nat.reduceAdd, Nat.reduceLT, List.getD_cons_zero, List.getD_cons_succ, List.set_cons_zero, List.set_cons_succ, reduceIte, reduceCtorEq, shareL_di, ld]
    exact ⟨n, by omega, i + 1, by omega, rfl⟩
end
end Av
namespace Av
open Go
set_option linter.unusedSimpArgs false
set_option linter.unusedVariables false
/-- A choice's place, and back. -/
def digN (k : Nat) (c : Int) : Nat := if c < 0 then k else c.toNat
def chI (k d : Nat) : Int := if d = k then -1 else d
/-- A world's digits, and its number. -/
def dws : List Nat → List Int → List Nat
  | k :: ks, c :: w => digN k c :: dws ks w
  | _, _ => []
def num : List Nat → List Int → Nat
  | k :: ks, c :: w => digN k c * cnt ks + num ks w
  | _, _ => 0
/-- The world with number n. -/
def wAt : List Nat → Nat → List Int
  | [], _ => []
  | k :: ks, n => chI k (n / cnt ks % (k + 1)) :: wAt ks n
theorem wAt_length : ∀ ks n, (wAt ks n).length = ks.length
  | [], _ => rfl
  | k :: ks, n => by rw [wAt, List.length_cons, List.length_cons, wAt_length]
theorem wAt_drop : ∀ ks n j, (wAt ks n).drop j = wAt (ks.drop j) n
  | ks, n, 0 => rfl
  | [], n, j + 1 => rfl
  | k :: ks, n, j + 1 => by rw [wAt, List.drop_succ_cons, List.drop_succ_cons, wAt_drop]
theorem digN_le {k : Nat} {c : Int} (h : c < k) : digN k c ≤ k := by unfold digN; split <;> omega
theorem chI_in (k d : Nat) (h : d < k + 1) : -1 ≤ chI k d ∧ chI k d < k := by unfold chI; split <;> omega
theorem digN_chI (k d : Nat) (h : d < k + 1) : digN k (chI k d) = d := by unfold digN chI; split <;> split <;> omega
theorem num_wAt : ∀ ks n, num ks (wAt ks n) = n % cnt ks
  | [], n => by rw [wAt, cnt, Nat.mod_one]; simp [num]
  | k :: ks, n => by
    rw [wAt, num, cnt, digN_chI _ _ (Nat.mod_lt _ (by omega)), num_wAt ks n, Nat.mul_comm (k + 1), Nat.mod_mul, Nat.mul_comm (cnt ks), Nat.add_comm]
theorem InW.cons {k : Nat} {ks : List Nat} {c : Int} {w : List Int} (h : InW (k :: ks) (c :: w)) : (-1 ≤ c ∧ c < k) ∧ InW ks w := by
  obtain ⟨h1, h2⟩ := h
  exact ⟨h2 0 (by simp), by simpa using h1, fun i hi => h2 (i + 1) (by simp; omega)⟩
theorem num_lt : ∀ {ks : List Nat} {w : List Int}, InW ks w → num ks w < cnt ks
  | [], [], _ => by simp [num, cnt]
  | [], _ :: _, _ => by simp [num, cnt]
  | k :: ks, [], h => by have := h.1; simp at this
  | k :: ks, c :: w, h => by
    obtain ⟨h1, h2⟩ := h.cons
    have h3 := num_lt h2
    have h4 := digN_le h1.2
    rw [num, cnt]
    have h5 : (digN k c + 1) * cnt ks ≤ (k + 1) * cnt ks := Nat.mul_le_mul_right _ (by omega)
    rw [Nat.add_mul, Nat.one_mul] at h5
    omega
theorem wAt_add : ∀ ks n t, wAt ks (n + cnt ks * t) = wAt ks n
  | [], _, _ => rfl
  | k :: ks, n, t => by
    rw [wAt, wAt]
    have e : n + cnt (k :: ks) * t = n + cnt ks * ((k + 1) * t) := by rw [cnt, Nat.mul_comm (k + 1), Nat.mul_assoc]
    rw [e, wAt_add ks, Nat.add_mul_div_left _ _ (cnt_pos ks), Nat.add_mul_mod_self_left]
theorem wAt_in : ∀ ks n, InW ks (wAt ks n)
  | [], n => ⟨rfl, fun i hi => by simp at hi⟩
  | k :: ks, n => by
    obtain ⟨h1, h2⟩ := wAt_in ks n
    refine ⟨by rw [wAt_length], fun i hi => ?_⟩
    cases i with
    | zero => exact chI_in k _ (Nat.mod_lt _ (by omega))
    | succ i => exact h2 i (by simpa using hi)
theorem num_append : ∀ (ks : List Nat) (w : List Int) (k : Nat) (c : Int), w.length = ks.length → num (ks ++ [k]) (w ++ [c]) = num ks w * (k + 1) + digN k c
  | [], [], k, c, _ => by simp [num, cnt]
  | [], _ :: _, _, _, h => by simp at h
  | _ :: _, [], _, _, h => by simp at h
  | k' :: ks, c' :: w, k, c, h => by
    have := num_append ks w k c (by simpa using h)
    rw [List.cons_append, List.cons_append, num, this, num, cnt_append, Nat.add_mul, Nat.add_assoc]
    congr 1
    simp only [cnt, Nat.mul_one, Nat.mul_assoc]
theorem num_take (ks : List Nat) (w : List Int) (i : Nat) (hi : i < ks.length) (hw : w.length = ks.length) : num (ks.take (i + 1)) (w.take (i + 1)) = num (ks.take i) (w.take i) * (ks.getD i 0 + 1) + digN (ks.getD i 0) (w.getD i 0) := by
  have e : w.take (i + 1) = w.take i ++ [w.getD i 0] := by rw [List.take_add_one]; simp [show i < w.length by omega]
  rw [take_get ks i hi, e, num_append _ _ _ _ (by simp; omega)]
theorem InW.take {ks : List Nat} {w : List Int} (h : InW ks w) (i : Nat) : InW (ks.take i) (w.take i) := by
  obtain ⟨h1, h2⟩ := h
  refine ⟨by simp; omega, fun j hj => ?_⟩
  have hj2 : j < i ∧ j < ks.length := by simp at hj; omega
  have := h2 j hj2.2
  rw [List.getD_eq_getElem?_getD, List.getElem?_take, if_pos hj2.1, ← List.getD_eq_getElem?_getD, List.getD_eq_getElem?_getD (l := ks.take i), List.getElem?_take, if_pos hj2.1, ← List.getD_eq_getElem?_getD]
  exact this
section
variable {T : Nat → Option Fun}
end
end Av
namespace Av
open Go
set_option linter.unusedSimpArgs false
set_option linter.unusedVariables false
/-- Fractions, blocks of them, spaces. -/
abbrev Frac3 := Bool × List Nat × List Nat
def frC (f : Frac3) : List D := [.bool f.1, .slice false 1 f.2.1.length (dg f.2.1), .slice false 1 f.2.2.length (dg f.2.2)]
def frO (f : Frac3) : List D := [.bool f.1, .slice true 1 f.2.1.length (dg f.2.1), .slice true 1 f.2.2.length (dg f.2.2)]
def frs (l : List Frac3) : List D := l.flatMap frC
def gblk (l : List Frac3) : D := .slice false 3 l.length (frs l)
def gblks (bs : List (List Frac3)) : List D := bs.map gblk
def gsp (bs : List (List Frac3)) : D := .agg [.slice false 1 bs.length (gblks bs)]
def lens (bs : List (List Frac3)) : List Nat := bs.map List.length
theorem lens_length (bs : List (List Frac3)) : (lens bs).length = bs.length := by simp [lens]
theorem lens_getD (bs : List (List Frac3)) (i : Nat) : (lens bs).getD i 0 = (bs.getD i []).length := by
  simp only [lens, List.getD_eq_getElem?_getD, List.getElem?_map]
  cases bs[i]? <;> rfl
theorem shareL_frC (f : Frac3) : shareL (frC f) = frC f := by simp only [frC, shareL, shareD, shareL_dg]
theorem shareL_frO (f : Frac3) : shareL (frO f) = frC f := by simp only [frC, frO, shareL, shareD, shareL_dg]
theorem shareL_frs : ∀ l : List Frac3, shareL (frs l) = frs l
  | [] => rfl
  | f :: l => by
    have := shareL_frs l
    simp only [frs] at this
    simp only [frs, List.flatMap_cons, shareL_append, this, shareL_frC]
theorem frs_length : ∀ l : List Frac3, (frs l).length = l.length * 3
  | [] => rfl
  | f :: l => by
    have := frs_length l
    simp only [frs] at this
    simp only [frs, List.flatMap_cons, List.length_append, this, List.length_cons, frC, List.length_nil]
    omega
theorem shareL_gblks : ∀ bs, shareL (gblks bs) = gblks bs
  | [] => rfl
  | l :: bs => by
    have := shareL_gblks bs
    simp only [gblks] at this
    simp only [gblks, List.map_cons, shareL, this, gblk, shareD, shareL_frs]
theorem gblks_length (bs : List (List Frac3)) : (gblks bs).length = bs.length := by simp [gblks]
theorem load_gblk (rows : Rows) (bs : List (List Frac3)) (i : Nat) (h : i < bs.length) : loadV rows true 1 (.faddr (gblks bs) i) = some (.agg [gblk (bs.getD i [])]) := by
  have e : (gblks bs).drop i = gblk (bs.getD i []) :: (gblks bs).drop (i + 1) := by
    rw [List.drop_eq_getElem_cons (by rw [gblks_length]; exact h)]; simp [gblks, h]
  simp [loadV, gblks_length, show i + 1 ≤ bs.length by omega, cut, e]
theorem load_gblk1 (rows : Rows) (bs : List (List Frac3)) (i : Nat) (h : i < bs.length) : loadV rows false 1 (.faddr (gblks bs) i) = some (gblk (bs.getD i [])) := load_faddr _ _ _ _ (by simp [gblks, h])
theorem drop_frs : ∀ (j : Nat) (l : List Frac3), j < l.length → (frs l).drop (j * 3) = frC (l.getD j (false, [], [])) ++ (frs l).drop (j * 3 + 3)
  | _, [], h => by simp at h
  | 0, f :: l, h => rfl
  | j + 1, f :: l, h => by
    have := drop_frs j l (by simpa using h)
    simp only [frs] at this
    rw [show (j + 1) * 3 = j * 3 + 1 + 1 + 1 by omega, show j * 3 + 1 + 1 + 1 + 3 = (j * 3 + 3) + 1 + 1 + 1 by omega]
    exact this
theorem load_frs (rows : Rows) (l : List Frac3) (j : Nat) (h : j < l.length) : loadV rows true 3 (.faddr (frs l) (j * 3)) = some (.agg (frC (l.getD j (false, [], [])))) := by
  simp only [loadV, frs_length]
  rw [if_pos (by omega)]
  simp only [if_true, cut, drop_frs j l h]
  rfl

/-- What is known of a block's numbers. -/
structure GoodB (T : Nat → Option Fun) (l : List Frac3) : Prop where
  len : l.length ≤ 4
  sign : ∀ f ∈ l, ∃ s : Int, 0 ≤ s ∧ callW T 4 [.agg (frC f)] [] = some (.int .i64 s, [])
  rem : ∃ f : Frac3, callW T 10 [.agg [gblk l]] [] = some (.agg (frO f), []) ∧ ∃ s : Int, 0 ≤ s ∧ callW T 4 [.agg (frC f)] [] = some (.int .i64 s, [])
def Good (T : Nat → Option Fun) (bs : List (List Frac3)) : Prop := ∀ l ∈ bs, GoodB T l
theorem Good.get {T : Nat → Option Fun} {bs : List (List Frac3)} (h : Good T bs) {i : Nat} (hi : i < bs.length) : GoodB T (bs.getD i []) := by
  rw [List.getD, List.getElem?_eq_getElem hi]; exact h _ (List.getElem_mem hi)
theorem Good.small {T : Nat → Option Fun} {bs : List (List Frac3)} (h : Good T bs) : Small (lens bs) := by
  intro k hk
  obtain ⟨l, hl, rfl⟩ := List.mem_map.1 hk
  exact (h l hl).len
theorem mem_getD {l : List Frac3} {j : Nat} (h : j < l.length) : l.getD j (false, [], []) ∈ l := by
  rw [List.getD, List.getElem?_eq_getElem h]; exact List.getElem_mem h

section
variable {T : Nat → Option Fun}
theorem gradix_ok (h : Has1 T) (l : List Frac3) (hk : l.length ≤ 4) : callW T 34 [.agg [gblk l]] [] = some (.int .i64 ((l.length : Int) + 1), []) := by
  refine callW_ev (h 34 (.code F.f34) rfl) rfl ?_
  simp only [F.f34, adoptVs, adoptV, List.cons_append, List.nil_append]
  simp -implicitDefEqProofs (disch := first | omega | (apply calm_by; decide)) only [List.cons_append, List.nil_append, Ev_seq, Ev_region, Ev_skip, Ev_exit, Ev_ret, Ev_block, Ev_cond, Ev_ghost, Ev_draw_calm, GoOn_cmp, GoOn_nil, GoOn_thn, GoOn_thn_e, GoOn_thn_r, GoOn_blk, GoOn_blk_e, GoOn_blk_r, onN_n, onN_e, onN_r, Round_n, Round_e, Round_r, EvC_t, EvC_f, EvW_t, EvW_f, EvR_some, EvN_some, EvO_cons, EvO_nil, wanted, exec, put, passed, opd,
    List.length_cons, List.length_nil, Nat.zero_add, Nat.reduceAdd, List.replicate_succ, List.replicate_zero, List.set_cons_zero, List.set_cons_succ, List.getD_cons_zero, List.getD_cons_succ, Option.map_some, Option.map_none, List.map_cons, List.map_nil,
    bin_add, bin_sub, bin_mul, bin_eql, bin_neq, bin_lss, bin_leq, bin_gtr, bin_geq, bin_quo_nat, bin_rem_nat, bin_or_hi, bin_shr32, bin_shl32, lenV_slice, lenV_ref, ne_eq, not_false_eq_true, beq_true, beq_false, Bool.not_true, Bool.not_false, wrap_i64, wrap_u64, dec_t, dec_f, ite_t, ite_f, ibeq_t, ibeq_f, ibne_t, ibne_f, index_slice, index_ref, slice_slice_hi, slice_ref_hi, Int.natCast_add, Int.cast_ofNat_Int, Int.add_sub_cancel, Int.toNat_natCast, Int.toNat_natCast_add_one, Int.reduceToNat, Nat.mul_one, load_dg, shareL_dg, adoptV, if_true, if_false, ite_true, ite_false, Bool.true_eq, Bool.false_eq_true, beq_self_eq_true, reduceCtorEq, reduceIte, Nat.reduceMul, Nat.reduceSub, Nat.reduceLT, Nat.reduceLeDiff, Nat.reduceEqDiff, callV, takeArgs, takeV, lendArgs, lendV, lendVs, List.headD_cons, List.headD_nil, List.tail_cons, List.tail_nil, List.contains_cons, List.contains_nil, m_al, m_sl, m_ol, m_ll, m_la, m_ls, m_lo, Bool.or_false, Bool.or_true, Bool.false_or, Bool.true_or, idsL, ids, madeV, shareV, shareVs, adoptV, adoptVs, ownOnly, ownOnlyL, Bool.true_and, Bool.and_true, Bool.and_false, Bool.false_and, List.isEmpty_nil, List.isEmpty_cons, giveV, giveVs, Bool.not_false, Bool.not_true, reduceCtorEq, Bool.false_eq_true, if_false, if_true, dg_length, take_dg, List.take_length, ends_n, ends_r, results, resVs, resV, giveV, giveVs, shareV, theRow, List.getElem?_cons_zero, List.getElem?_cons_succ, Option.map_some, List.take_zero, List.take_nil, List.take_succ_cons, comps, zeros, fill, layAt, List.zip_cons_cons, List.zip_nil_left, List.zip_nil_right, List.all_cons, List.all_nil, storable, List.append_nil, List.cons_append, List.nil_append, true_and, and_self, Nat.le_refl, Bool.and_self, giveVs, giveV, adoptV, madeV, Option.map_some, List.map_cons, List.map_nil, gblk, loadV, cellsAt, borrow, theRow]
theorem gdigit_ok (h : Has1 T) (l : List Frac3) (c : Int) (hk : l.length ≤ 4) : callW T 40 [.agg [gblk l], .int .i64 c] [] = some (.int .i64 (if c < 0 then (l.length : Int) else c), []) := by
  refine callW_ev (h 40 (.code F.f40) rfl) rfl ?_
  simp only [F.f40, adoptVs, adoptV, List.cons_append, List.nil_append]
  by_cases hc : c < 0
  · simp -implicitDefEqProofs (disch := first | omega | (apply calm_by; decide)) only [List.cons_append, List.nil_append, Ev_seq, Ev_region, Ev_skip, Ev_exit, Ev_ret, Ev_block, Ev_cond, Ev_ghost, Ev_draw_calm, GoOn_cmp, GoOn_nil, GoOn_thn, GoOn_thn_e, GoOn_thn_r, GoOn_blk, GoOn_blk_e, GoOn_blk_r, onN_n, onN_e, onN_r, Round_n, Round_e, Round_r, EvC_t, EvC_f, EvW_t, EvW_f, EvR_some, EvN_some, EvO_cons, EvO_nil, wanted, exec, put, passed, opd,
    List.length_cons, List.length_nil, Nat.zero_add, Nat.reduceAdd, List.replicate_succ, List.replicate_zero, List.set_cons_zero, List.set_cons_succ, List.getD_cons_zero, List.getD_cons_succ, Option.map_some, Option.map_none, List.map_cons, List.map_nil,
    bin_add, bin_sub, bin_mul, bin_eql, bin_neq, bin_lss, bin_leq, bin_gtr, bin_geq, bin_quo_nat, bin_rem_nat, bin_or_hi, bin_shr32, bin_shl32, lenV_slice, lenV_ref, ne_eq, not_false_eq_true, beq_true, beq_false, Bool.not_true, Bool.not_false, wrap_i64, wrap_u64, dec_t, dec_f, ite_t, ite_f, ibeq_t, ibeq_f, ibne_t, ibne_f, index_slice, index_ref, slice_slice_hi, slice_ref_hi, Int.natCast_add, Int.cast_ofNat_Int, Int.add_sub_cancel, Int.toNat_natCast, Int.toNat_natCast_add_one, Int.reduceToNat, Nat.mul_one, load_dg, shareL_dg, adoptV, if_true, if_false, ite_true, ite_false, Bool.true_eq, Bool.false_eq_true, beq_self_eq_true, reduceCtorEq, reduceIte, Nat.reduceMul, Nat.reduceSub, Nat.reduceLT, Nat.reduceLeDiff, Nat.reduceEqDiff, callV, takeArgs, takeV, lendArgs, lendV, lendVs, List.headD_cons, List.headD_nil, List.tail_cons, List.tail_nil, List.contains_cons, List.contains_nil, m_al, m_sl, m_ol, m_ll, m_la, m_ls, m_lo, Bool.or_false, Bool.or_true, Bool.false_or, Bool.true_or, idsL, ids, madeV, shareV, shareVs, adoptV, adoptVs, ownOnly, ownOnlyL, Bool.true_and, Bool.and_true, Bool.and_false, Bool.false_and, List.isEmpty_nil, List.isEmpty_cons, giveV, giveVs, Bool.not_false, Bool.not_true, reduceCtorEq, Bool.false_eq_true, if_false, if_true, dg_length, take_dg, List.take_length, ends_n, ends_r, results, resVs, resV, giveV, giveVs, shareV, theRow, List.getElem?_cons_zero, List.getElem?_cons_succ, Option.map_some, List.take_zero, List.take_nil, List.take_succ_cons, comps, zeros, fill, layAt, List.zip_cons_cons, List.zip_nil_left, List.zip_nil_right, List.all_cons, List.all_nil, storable, List.append_nil, List.cons_append, List.nil_append, true_and, and_self, Nat.le_refl, Bool.and_self, giveVs, giveV, adoptV, madeV, Option.map_some, List.map_cons, List.map_nil, gblk, loadV, cellsAt, borrow, theRow]
  · simp -implicitDefEqProofs (disch := first | omega | (apply calm_by; decide)) only [List.cons_append, List.nil_append, Ev_seq, Ev_region, Ev_skip, Ev_exit, Ev_ret, Ev_block, Ev_cond, Ev_ghost, Ev_draw_calm, GoOn_cmp, GoOn_nil, GoOn_thn, GoOn_thn_e, GoOn_thn_r, GoOn_blk, GoOn_blk_e, GoOn_blk_r, onN_n, onN_e, onN_r, Round_n, Round_e, Round_r, EvC_t, EvC_f, EvW_t, EvW_f, EvR_some, EvN_some, EvO_cons, EvO_nil, wanted, exec, put, passed, opd,
    List.length_cons, List.length_nil, Nat.zero_add, Nat.reduceAdd, List.replicate_succ, List.replicate_zero, List.set_cons_zero, List.set_cons_succ, List.getD_cons_zero, List.getD_cons_succ, Option.map_some, Option.map_none, List.map_cons, List.map_nil,
    bin_add, bin_sub, bin_mul, bin_eql, bin_neq, bin_lss, bin_leq, bin_gtr, bin_geq, bin_quo_nat, bin_rem_nat, bin_or_hi, bin_shr32, bin_shl32, lenV_slice, lenV_ref, ne_eq, not_false_eq_true, beq_true, beq_false, Bool.not_true, Bool.not_false, wrap_i64, wrap_u64, dec_t, dec_f, ite_t, ite_f, ibeq_t, ibeq_f, ibne_t, ibne_f, index_slice, index_ref, slice_slice_hi, slice_ref_hi, Int.natCast_add, Int.cast_ofNat_Int, Int.add_sub_cancel, Int.toNat_natCast, Int.toNat_natCast_add_one, Int.reduceToNat, Nat.mul_one, load_dg, shareL_dg, adoptV, if_true, if_false, ite_true, ite_false, Bool.true_eq, Bool.false_eq_true, beq_self_eq_true, reduceCtorEq, reduceIte, Nat.reduceMul, Nat.reduceSub, Nat.reduceLT, Nat.reduceLeDiff, Nat.reduceEqDiff, callV, takeArgs, takeV, lendArgs, lendV, lendVs, List.headD_cons, List.headD_nil, List.tail_cons, List.tail_nil, List.contains_cons, List.contains_nil, m_al, m_sl, m_ol, m_ll, m_la, m_ls, m_lo, Bool.or_false, Bool.or_true, Bool.false_or, Bool.true_or, idsL, ids, madeV, shareV, shareVs, adoptV, adoptVs, ownOnly, ownOnlyL, Bool.true_and, Bool.and_true, Bool.and_false, Bool.false_and, List.isEmpty_nil, List.isEmpty_cons, giveV, giveVs, Bool.not_false, Bool.not_true, reduceCtorEq, Bool.false_eq_true, if_false, if_true, dg_length, take_dg, List.take_length, ends_n, ends_r, results, resVs, resV, giveV, giveVs, shareV, theRow, List.getElem?_cons_zero, List.getElem?_cons_succ, Option.map_some, List.take_zero, List.take_nil, List.take_succ_cons, comps, zeros, fill, layAt, List.zip_cons_cons, List.zip_nil_left, List.zip_nil_right, List.all_cons, List.all_nil, storable, List.append_nil, List.cons_append, List.nil_append, true_and, and_self, Nat.le_refl, Bool.and_self, giveVs, giveV, adoptV, madeV, Option.map_some, List.map_cons, List.map_nil, gblk, loadV, cellsAt, borrow, theRow]
theorem gchoice_ok (h : Has1 T) (l : List Frac3) (c : Int) (hk : l.length ≤ 4) : callW T 37 [.agg [gblk l], .int .i64 c] [] = some (.int .i64 (if c = l.length then -1 else c), []) := by
  refine callW_ev (h 37 (.code F.f37) rfl) rfl ?_
  simp only [F.f37, adoptVs, adoptV, List.cons_append, List.nil_append]
  by_cases hc : c = l.length
  · simp -implicitDefEqProofs (disch := first | omega | (apply calm_by; decide)) only [List.cons_append, List.nil_append, Ev_seq, Ev_region, Ev_skip, Ev_exit, Ev_ret, Ev_block, Ev_cond, Ev_ghost, Ev_draw_calm, GoOn_cmp, GoOn_nil, GoOn_thn, GoOn_thn_e, GoOn_thn_r, GoOn_blk, GoOn_blk_e, GoOn_blk_r, onN_n, onN_e, onN_r, Round_n, Round_e, Round_r, EvC_t, EvC_f, EvW_t, EvW_f, EvR_some, EvN_some, EvO_cons, EvO_nil, wanted, exec, put, passed, opd,
    List.length_cons, List.length_nil, Nat.zero_add, Nat.reduceAdd, List.replicate_succ, List.replicate_zero, List.set_cons_zero, List.set_cons_succ, List.getD_cons_zero, List.getD_cons_succ, Option.map_some, Option.map_none, List.map_cons, List.map_nil,
    bin_add, bin_sub, bin_mul, bin_eql, bin_neq, bin_lss, bin_leq, bin_gtr, bin_geq, bin_quo_nat, bin_rem_nat, bin_or_hi, bin_shr32, bin_shl32, lenV_slice, lenV_ref, ne_eq, not_false_eq_true, beq_true, beq_false, Bool.not_true, Bool.not_false, wrap_i64, wrap_u64, dec_t, dec_f, ite_t, ite_f, ibeq_t, ibeq_f, ibne_t, ibne_f, index_slice, index_ref, slice_slice_hi, slice_ref_hi, Int.natCast_add, Int.cast_ofNat_Int, Int.add_sub_cancel, Int.toNat_natCast, Int.toNat_natCast_add_one, Int.reduceToNat, Nat.mul_one, load_dg, shareL_dg, adoptV, if_true, if_false, ite_true, ite_false, Bool.true_eq, Bool.false_eq_true, beq_self_eq_true, reduceCtorEq, reduceIte, Nat.reduceMul, Nat.reduceSub, Nat.reduceLT, Nat.reduceLeDiff, Nat.reduceEqDiff, callV, takeArgs, takeV, lendArgs, lendV, lendVs, List.headD_cons, List.headD_nil, List.tail_cons, List.tail_nil, List.contains_cons, List.contains_nil, m_al, m_sl, m_ol, m_ll, m_la, m_ls, m_lo, Bool.or_false, Bool.or_true, Bool.false_or, Bool.true_or, idsL, ids, madeV, shareV, shareVs, adoptV, adoptVs, ownOnly, ownOnlyL, Bool.true_and, Bool.and_true, Bool.and_false, Bool.false_and, List.isEmpty_nil, List.isEmpty_cons, giveV, giveVs, Bool.not_false, Bool.not_true, reduceCtorEq, Bool.false_eq_true, if_false, if_true, dg_length, take_dg, List.take_length, ends_n, ends_r, results, resVs, resV, giveV, giveVs, shareV, theRow, List.getElem?_cons_zero, List.getElem?_cons_succ, Option.map_some, List.take_zero, List.take_nil, List.take_succ_cons, comps, zeros, fill, layAt, List.zip_cons_cons, List.zip_nil_left, List.zip_nil_right, List.all_cons, List.all_nil, storable, List.append_nil, List.cons_append, List.nil_append, true_and, and_self, Nat.le_refl, Bool.and_self, giveVs, giveV, adoptV, madeV, Option.map_some, List.map_cons, List.map_nil, gblk, loadV, cellsAt, borrow, theRow]
  · simp -implicitDefEqProofs (disch := first | omega | (apply calm_by; decide)) only [List.cons_append, List.nil_append, Ev_seq, Ev_region, Ev_skip, Ev_exit, Ev_ret, Ev_block, Ev_cond, Ev_ghost, Ev_draw_calm, GoOn_cmp, GoOn_nil, GoOn_thn, GoOn_thn_e, GoOn_thn_r, GoOn_blk, GoOn_blk_e, GoOn_blk_r, onN_n, onN_e, onN_r, Round_n, Round_e, Round_r, EvC_t, EvC_f, EvW_t, EvW_f, EvR_some, EvN_some, EvO_cons, EvO_nil, wanted, exec, put, passed, opd,
    List.length_cons, List.length_nil, Nat.zero_add, Nat.reduceAdd, List.replicate_succ, List.replicate_zero, List.set_cons_zero, List.set_cons_succ, List.getD_cons_zero, List.getD_cons_succ, Option.map_some, Option.map_none, List.map_cons, List.map_nil,
    bin_add, bin_sub, bin_mul, bin_eql, bin_neq, bin_lss, bin_leq, bin_gtr, bin_geq, bin_quo_nat, bin_rem_nat, bin_or_hi, bin_shr32, bin_shl32, lenV_slice, lenV_ref, ne_eq, not_false_eq_true, beq_true, beq_false, Bool.not_true, Bool.not_false, wrap_i64, wrap_u64, dec_t, dec_f, ite_t, ite_f, ibeq_t, ibeq_f, ibne_t, ibne_f, index_slice, index_ref, slice_slice_hi, slice_ref_hi, Int.natCast_add, Int.cast_ofNat_Int, Int.add_sub_cancel, Int.toNat_natCast, Int.toNat_natCast_add_one, Int.reduceToNat, Nat.mul_one, load_dg, shareL_dg, adoptV, if_true, if_false, ite_true, ite_false, Bool.true_eq, Bool.false_eq_true, beq_self_eq_true, reduceCtorEq, reduceIte, Nat.reduceMul, Nat.reduceSub, Nat.reduceLT, Nat.reduceLeDiff, Nat.reduceEqDiff, callV, takeArgs, takeV, lendArgs, lendV, lendVs, List.headD_cons, List.headD_nil, List.tail_cons, List.tail_nil, List.contains_cons, List.contains_nil, m_al, m_sl, m_ol, m_ll, m_la, m_ls, m_lo, Bool.or_false, Bool.or_true, Bool.false_or, Bool.true_or, idsL, ids, madeV, shareV, shareVs, adoptV, adoptVs, ownOnly, ownOnlyL, Bool.true_and, Bool.and_true, Bool.and_false, Bool.false_and, List.isEmpty_nil, List.isEmpty_cons, giveV, giveVs, Bool.not_false, Bool.not_true, reduceCtorEq, Bool.false_eq_true, if_false, if_true, dg_length, take_dg, List.take_length, ends_n, ends_r, results, resVs, resV, giveV, giveVs, shareV, theRow, List.getElem?_cons_zero, List.getElem?_cons_succ, Option.map_some, List.take_zero, List.take_nil, List.take_succ_cons, comps, zeros, fill, layAt, List.zip_cons_cons, List.zip_nil_left, List.zip_nil_right, List.all_cons, List.all_nil, storable, List.append_nil, List.cons_append, List.nil_append, true_and, and_self, Nat.le_refl, Bool.and_self, giveVs, giveV, adoptV, madeV, Option.map_some, List.map_cons, List.map_nil, gblk, loadV, cellsAt, borrow, theRow]

set_option maxHeartbeats 2000000 in
theorem gvalid_ok (h : Has1 T) (bs : List (List Frac3)) (hk : Good T bs) (hl : bs.length ≤ 4096) : callW T 3 [gsp bs] [] = some (.bool true, []) := by
  refine callW_ev (h 3 (.code F.f3) rfl) rfl ?_
  simp only [F.f3, gsp, adoptVs, adoptV, List.cons_append, List.nil_append]
  simp -implicitDefEqProofs (disch := first | omega | (apply calm_by; decide)) only [List.cons_append, List.nil_append, Ev_seq, Ev_region, Ev_skip, Ev_exit, Ev_ret, Ev_block, Ev_cond, Ev_ghost, Ev_draw_calm, GoOn_cmp, GoOn_nil, GoOn_thn, GoOn_thn_e, GoOn_thn_r, GoOn_blk, GoOn_blk_e, GoOn_blk_r, onN_n, onN_e, onN_r, Round_n, Round_e, Round_r, EvC_t, EvC_f, EvW_t, EvW_f, EvR_some, EvN_some, EvO_cons, EvO_nil, wanted, exec, put, passed, opd,
    List.length_cons, List.length_nil, Nat.zero_add, Nat.reduceAdd, List.replicate_succ, List.replicate_zero, List.set_cons_zero, List.set_cons_succ, List.getD_cons_zero, List.getD_cons_succ, Option.map_some, Option.map_none, List.map_cons, List.map_nil,
    bin_add, bin_sub, bin_mul, bin_eql, bin_neq, bin_lss, bin_leq, bin_gtr, bin_geq, bin_quo_nat, bin_rem_nat, bin_or_hi, bin_shr32, bin_shl32, lenV_slice, lenV_ref, ne_eq, not_false_eq_true, beq_true, beq_false, Bool.not_true, Bool.not_false, wrap_i64, wrap_u64, dec_t, dec_f, ite_t, ite_f, ibeq_t, ibeq_f, ibne_t, ibne_f, index_slice, index_ref, slice_slice_hi, slice_ref_hi, Int.natCast_add, Int.cast_ofNat_Int, Int.add_sub_cancel, Int.toNat_natCast, Int.toNat_natCast_add_one, Int.reduceToNat, Nat.mul_one, load_dg, shareL_dg, adoptV, if_true, if_false, ite_true, ite_false, Bool.true_eq, Bool.false_eq_true, beq_self_eq_true, reduceCtorEq, reduceIte, Nat.reduceMul, Nat.reduceSub, Nat.reduceLT, Nat.reduceLeDiff, Nat.reduceEqDiff, callV, takeArgs, takeV, lendArgs, lendV, lendVs, List.headD_cons, List.headD_nil, List.tail_cons, List.tail_nil, List.contains_cons, List.contains_nil, m_al, m_sl, m_ol, m_ll, m_la, m_ls, m_lo, Bool.or_false, Bool.or_true, Bool.false_or, Bool.true_or, idsL, ids, madeV, shareV, shareVs, adoptV, adoptVs, ownOnly, ownOnlyL, Bool.true_and, Bool.and_true, Bool.and_false, Bool.false_and, List.isEmpty_nil, List.isEmpty_cons, giveV, giveVs, Bool.not_false, Bool.not_true, reduceCtorEq, Bool.false_eq_true, if_false, if_true, comps, zeros, fill, layAt, List.zip_cons_cons, List.zip_nil_left, List.zip_nil_right, List.all_cons, List.all_nil, storable, List.append_nil, List.cons_append, List.nil_append, true_and, and_self, Nat.le_refl, Bool.and_self, giveVs, giveV, adoptV, madeV, Option.map_some, List.map_cons, List.map_nil, loadV_addr, Nat.add_zero, storeV, setCells, layAt, cellsAt, borrow, borrowL, cut, theRow, comps, giveVs, giveV, List.getElem?_cons_zero, List.getElem?_cons_succ, List.drop_zero, List.take_succ_cons, List.take_zero, List.take_nil, List.all_cons, List.all_nil, storable, scalarD, Bool.and_self, Bool.false_eq_true, if_false, if_true, and_true, true_and, and_self, Nat.le_refl, false_implies, forall_const, forall_false, imp_false, not_false_eq_true, adoptVs, adoptV, shareL_gblks, shareV]
  refine Ev_loop (fun n st => ∃ i : Nat, i + n = bs.length ∧ st = ⟨[.undef, .undef, .undef, .undef, .undef, .slice false 1 bs.length (gblks bs), .int .i64 bs.length, .int .i64 i, .undef, .undef, .undef], [], [], 0⟩) bs.length ⟨0, by omega, ?_⟩ ?_
  · simp only [norm, keepLive, compact, List.range_zero, List.range_succ, List.nil_append, List.cons_append, List.append_nil, List.contains_cons, List.contains_nil, Bool.or_false, Bool.or_true, Bool.false_or, Bool.true_or, Nat.reduceBEq, beq_self_eq_true, idsL, ids, addId, List.filter_cons, List.filter_nil, decide_true, decide_false, List.map_cons, List.map_nil, maskD, within, withinL, mapD, mapL, subRows, getRow, List.idxOf_cons, List.idxOf_nil, cond_true, cond_false, Bool.and_true, Bool.true_and, if_true, if_false, Bool.false_eq_true, List.length_cons, List.length_nil, Nat.zero_add, Nat.reduceAdd, Nat.reduceLT, List.getD_cons_zero, List.getD_cons_succ, List.set_cons_zero, List.set_cons_succ, reduceIte, reduceCtorEq]; rfl
  rintro n st ⟨i, hi, rfl⟩
  cases n with
  | zero =>
    simp -implicitDefEqProofs (disch := first | omega | (apply calm_by; decide)) only [List.cons_append, List.nil_append, Ev_seq, Ev_region, Ev_skip, Ev_exit, Ev_ret, Ev_block, Ev_cond, Ev_ghost, Ev_draw_calm, GoOn_cmp, GoOn_nil, GoOn_thn, GoOn_thn_e, GoOn_thn_r, GoOn_blk, GoOn_blk_e, GoOn_blk_r, onN_n, onN_e, onN_r, Round_n, Round_e, Round_r, EvC_t, EvC_f, EvW_t, EvW_f, EvR_some, EvN_some, EvO_cons, EvO_nil, wanted, exec, put, passed, opd,
    List.length_cons, List.length_nil, Nat.zero_add, Nat.reduceAdd, List.replicate_succ, List.replicate_zero, List.set_cons_zero, List.set_cons_succ, List.getD_cons_zero, List.getD_cons_succ, Option.map_some, Option.map_none, List.map_cons, List.map_nil,
    bin_add, bin_sub, bin_mul, bin_eql, bin_neq, bin_lss, bin_leq, bin_gtr, bin_geq, bin_quo_nat, bin_rem_nat, bin_or_hi, bin_shr32, bin_shl32, lenV_slice, lenV_ref, ne_eq, not_false_eq_true, beq_true, beq_false, Bool.not_true, Bool.not_false, wrap_i64, wrap_u64, dec_t, dec_f, ite_t, ite_f, ibeq_t, ibeq_f, ibne_t, ibne_f, index_slice, index_ref, slice_slice_hi, slice_ref_hi, Int.natCast_add, Int.cast_ofNat_Int, Int.add_sub_cancel, Int.toNat_natCast, Int.toNat_natCast_add_one, Int.reduceToNat, Nat.mul_one, load_dg, shareL_dg, adoptV, if_true, if_false, ite_true, ite_false, Bool.true_eq, Bool.false_eq_true, beq_self_eq_true, reduceCtorEq, reduceIte, Nat.reduceMul, Nat.reduceSub, Nat.reduceLT, Nat.reduceLeDiff, Nat.reduceEqDiff, callV, takeArgs, takeV, lendArgs, lendV, lendVs, List.headD_cons, List.headD_nil, List.tail_cons, List.tail_nil, List.contains_cons, List.contains_nil, m_al, m_sl, m_ol, m_ll, m_la, m_ls, m_lo, Bool.or_false, Bool.or_true, Bool.false_or, Bool.true_or, idsL, ids, madeV, shareV, shareVs, adoptV, adoptVs, ownOnly, ownOnlyL, Bool.true_and, Bool.and_true, Bool.and_false, Bool.false_and, List.isEmpty_nil, List.isEmpty_cons, giveV, giveVs, Bool.not_false, Bool.not_true, reduceCtorEq, Bool.false_eq_true, if_false, if_true, dg_length, take_dg, List.take_length, ends_n, ends_r, results, resVs, resV, giveV, giveVs, shareV, theRow, List.getElem?_cons_zero, List.getElem?_cons_succ, Option.map_some, List.take_zero, List.take_nil, List.take_succ_cons]
  | succ n =>
    have hgb := hk.get (i := i) (by omega)
    have ld := fun rows => load_gblk rows bs i (by omega)
    generalize bs.getD i [] = l at *
    have hki := hgb.len
    obtain ⟨f, hrem, s, hs, hs1⟩ := hgb.rem
    have hkk : gblk l = .slice false 3 l.length (frs l) := rfl
    rw [hkk] at ld hrem
    simp only [frO, frC] at hrem hs1
    simp -implicitDefEqProofs (disch := first | omega | (apply calm_by; decide)) only [List.cons_append, List.nil_append, Ev_seq, Ev_region, Ev_skip, Ev_exit, Ev_ret, Ev_block, Ev_cond, Ev_ghost, Ev_draw_calm, GoOn_cmp, GoOn_nil, GoOn_thn, GoOn_thn_e, GoOn_thn_r, GoOn_blk, GoOn_blk_e, GoOn_blk_r, onN_n, onN_e, onN_r, Round_n, Round_e, Round_r, EvC_t, EvC_f, EvW_t, EvW_f, EvR_some, EvN_some, EvO_cons, EvO_nil, wanted, exec, put, passed, opd,
    List.length_cons, List.length_nil, Nat.zero_add, Nat.reduceAdd, List.replicate_succ, List.replicate_zero, List.set_cons_zero, List.set_cons_succ, List.getD_cons_zero, List.getD_cons_succ, Option.map_some, Option.map_none, List.map_cons, List.map_nil,
    bin_add, bin_sub, bin_mul, bin_eql, bin_neq, bin_lss, bin_leq, bin_gtr, bin_geq, bin_quo_nat, bin_rem_nat, bin_or_hi, bin_shr32, bin_shl32, lenV_slice, lenV_ref, ne_eq, not_false_eq_true, beq_true, beq_false, Bool.not_true, Bool.not_false, wrap_i64, wrap_u64, dec_t, dec_f, ite_t, ite_f, ibeq_t, ibeq_f, ibne_t, ibne_f, index_slice, index_ref, slice_slice_hi, slice_ref_hi, Int.natCast_add, Int.cast_ofNat_Int, Int.add_sub_cancel, Int.toNat_natCast, Int.toNat_natCast_add_one, Int.reduceToNat, Nat.mul_one, load_dg, shareL_dg, adoptV, if_true, if_false, ite_true, ite_false, Bool.true_eq, Bool.false_eq_true, beq_self_eq_true, reduceCtorEq, reduceIte, Nat.reduceMul, Nat.reduceSub, Nat.reduceLT, Nat.reduceLeDiff, Nat.reduceEqDiff, norm, keepLive, compact, List.range_zero, List.range_succ, List.nil_append, List.cons_append, List.append_nil, List.contains_cons, List.contains_nil, Bool.or_false, Bool.or_true, Bool.false_or, Bool.true_or, Nat.reduceBEq, beq_self_eq_true, idsL, ids, addId, List.filter_cons, List.filter_nil, decide_true, decide_false, List.map_cons, List.map_nil, maskD, within, withinL, mapD, mapL, subRows, getRow, List.idxOf_cons, List.idxOf_nil, cond_true, cond_false, Bool.and_true, Bool.true_and, if_true, if_false, Bool.false_eq_true, List.length_cons, List.length_nil, Nat.zero_add, Nat.reduceAdd, Nat.reduceLT, List.getD_cons_zero, List.getD_cons_succ, List.set_cons_zero, List.set_cons_succ, reduceIte, reduceCtorEq, callV, takeArgs, takeV, lendArgs, lendV, lendVs, List.headD_cons, List.headD_nil, List.tail_cons, List.tail_nil, List.contains_cons, List.contains_nil, m_al, m_sl, m_ol, m_ll, m_la, m_ls, m_lo, Bool.or_false, Bool.or_true, Bool.false_or, Bool.true_or, idsL, ids, madeV, shareV, shareVs, adoptV, adoptVs, ownOnly, ownOnlyL, Bool.true_and, Bool.and_true, Bool.and_false, Bool.false_and, List.isEmpty_nil, List.isEmpty_cons, giveV, giveVs, Bool.not_false, Bool.not_true, reduceCtorEq, Bool.false_eq_true, if_false, if_true, comps, zeros, fill, layAt, List.zip_cons_cons, List.zip_nil_left, List.zip_nil_right, List.all_cons, List.all_nil, storable, List.append_nil, List.cons_append, List.nil_append, true_and, and_self, Nat.le_refl, Bool.and_self, giveVs, giveV, adoptV, madeV, Option.map_some, List.map_cons, List.map_nil, loadV_addr, Nat.add_zero, storeV, setCells, layAt, cellsAt, borrow, borrowL, cut, theRow, comps, giveVs, giveV, List.getElem?_cons_zero, List.getElem?_cons_succ, List.drop_zero, List.take_succ_cons, List.take_zero, List.take_nil, List.all_cons, List.all_nil, storable, scalarD, Bool.and_self, Bool.false_eq_true, if_false, if_true, and_true, true_and, and_self, Nat.le_refl, false_implies, forall_const, forall_false, imp_false, not_false_eq_true, adoptVs, adoptV, ld, shareL_gblks, shareL_frs, shareV]
    refine Ev_loop (fun m st => ∃ j : Nat, j + m = l.length ∧ st = ⟨[.undef, .undef, .undef, .addr 0 [] 0 0, .undef, .slice false 1 bs.length (gblks bs), .int .i64 bs.length, .int .i64 i, .slice false 3 l.length (frs l), .int .i64 l.length, .int .i64 j], [], [some ⟨[.slice false 3 l.length (frs l)], false, 0, 1⟩], 0⟩) l.length ⟨0, by omega, ?_⟩ ?_
    · simp only [norm, keepLive, compact, List.range_zero, List.range_succ, List.nil_append, List.cons_append, List.append_nil, List.contains_cons, List.contains_nil, Bool.or_false, Bool.or_true, Bool.false_or, Bool.true_or, Nat.reduceBEq, beq_self_eq_true, idsL, ids, addId, List.filter_cons, List.filter_nil, decide_true, decide_false, List.map_cons, List.map_nil, maskD, within, withinL, mapD, mapL, subRows, getRow, List.idxOf_cons, List.idxOf_nil, cond_true, cond_false, Bool.and_true, Bool.true_and, if_true, if_false, Bool.false_eq_true, List.length_cons, List.length_nil, Nat.zero_add, Nat.reduceAdd, Nat.reduceLT, List.getD_cons_zero, List.getD_cons_succ, List.set_cons_zero, List.set_cons_succ, reduceIte, reduceCtorEq]; rfl
    rintro m st ⟨j, hj, rfl⟩
    cases m with
    | zero =>
      have ej : j = l.length := by omega
      subst ej
      simp -implicitDefEqProofs (disch := first | omega | (apply calm_by; decide)) only [List.cons_append, List.nil_append, Ev_seq, Ev_region, Ev_skip, Ev_exit, Ev_ret, Ev_block, Ev_cond, Ev_ghost, Ev_draw_calm, GoOn_cmp, GoOn_nil, GoOn_thn, GoOn_thn_e, GoOn_thn_r, GoOn_blk, GoOn_blk_e, GoOn_blk_r, onN_n, onN_e, onN_r, Round_n, Round_e, Round_r, EvC_t, EvC_f, EvW_t, EvW_f, EvR_some, EvN_some, EvO_cons, EvO_nil, wanted, exec, put, passed, opd,
    List.length_cons, List.length_nil, Nat.zero_add, Nat.reduceAdd, List.replicate_succ, List.replicate_zero, List.set_cons_zero, List.set_cons_succ, List.getD_cons_zero, List.getD_cons_succ, Option.map_some, Option.map_none, List.map_cons, List.map_nil,
    bin_add, bin_sub, bin_mul, bin_eql, bin_neq, bin_lss, bin_leq, bin_gtr, bin_geq, bin_quo_nat, bin_rem_nat, bin_or_hi, bin_shr32, bin_shl32, lenV_slice, lenV_ref, ne_eq, not_false_eq_true, beq_true, beq_false, Bool.not_true, Bool.not_false, wrap_i64, wrap_u64, dec_t, dec_f, ite_t, ite_f, ibeq_t, ibeq_f, ibne_t, ibne_f, index_slice, index_ref, slice_slice_hi, slice_ref_hi, Int.natCast_add, Int.cast_ofNat_Int, Int.add_sub_cancel, Int.toNat_natCast, Int.toNat_natCast_add_one, Int.reduceToNat, Nat.mul_one, load_dg, shareL_dg, adoptV, if_true, if_false, ite_true, ite_false, Bool.true_eq, Bool.false_eq_true, beq_self_eq_true, reduceCtorEq, reduceIte, Nat.reduceMul, Nat.reduceSub, Nat.reduceLT, Nat.reduceLeDiff, Nat.reduceEqDiff, norm, keepLive, compact, List.range_zero, List.range_succ, List.nil_append, List.cons_append, List.append_nil, List.contains_cons, List.contains_nil, Bool.or_false, Bool.or_true, Bool.false_or, Bool.true_or, Nat.reduceBEq, beq_self_eq_true, idsL, ids, addId, List.filter_cons, List.filter_nil, decide_true, decide_false, List.map_cons, List.map_nil, maskD, within, withinL, mapD, mapL, subRows, getRow, List.idxOf_cons, List.idxOf_nil, cond_true, cond_false, Bool.and_true, Bool.true_and, if_true, if_false, Bool.false_eq_true, List.length_cons, List.length_nil, Nat.zero_add, Nat.reduceAdd, Nat.reduceLT, List.getD_cons_zero, List.getD_cons_succ, List.set_cons_zero, List.set_cons_succ, reduceIte, reduceCtorEq, callV, takeArgs, takeV, lendArgs, lendV, lendVs, List.headD_cons, List.headD_nil, List.tail_cons, List.tail_nil, List.contains_cons, List.contains_nil, m_al, m_sl, m_ol, m_ll, m_la, m_ls, m_lo, Bool.or_false, Bool.or_true, Bool.false_or, Bool.true_or, idsL, ids, madeV, shareV, shareVs, adoptV, adoptVs, ownOnly, ownOnlyL, Bool.true_and, Bool.and_true, Bool.and_false, Bool.false_and, List.isEmpty_nil, List.isEmpty_cons, giveV, giveVs, Bool.not_false, Bool.not_true, reduceCtorEq, Bool.false_eq_true, if_false, if_true, comps, zeros, fill, layAt, List.zip_cons_cons, List.zip_nil_left, List.zip_nil_right, List.all_cons, List.all_nil, storable, List.append_nil, List.cons_append, List.nil_append, true_and, and_self, Nat.le_refl, Bool.and_self, giveVs, giveV, adoptV, madeV, Option.map_some, List.map_cons, List.map_nil, loadV_addr, Nat.add_zero, storeV, setCells, layAt, cellsAt, borrow, borrowL, cut, theRow, comps, giveVs, giveV, List.getElem?_cons_zero, List.getElem?_cons_succ, List.drop_zero, List.take_succ_cons, List.take_zero, List.take_nil, List.all_cons, List.all_nil, storable, scalarD, Bool.and_self, Bool.false_eq_true, if_false, if_true, and_true, true_and, and_self, Nat.le_refl, false_implies, forall_const, forall_false, imp_false, not_false_eq_true, adoptVs, adoptV, hrem, hs1, lendVs, lend_slice0, shareL_frs, shareL_dg, ownOnlyL_dg, shareV, shareL, shareD]
      exact ⟨n, by omega, i + 1, by omega, rfl⟩
    | succ m =>
      have ld2 := fun rows => load_frs rows l j (by omega)
      obtain ⟨s0, hs0, hsg⟩ := hgb.sign _ (mem_getD (show j < l.length by omega))
      generalize l.getD j (false, [], []) = f0 at *
      have c1 : ((j : Int)).toNat * 3 = j * 3 := by omega
      simp only [frC] at ld2 hsg
      simp -implicitDefEqProofs (disch := first | omega | (apply calm_by; decide)) only [List.cons_append, List.nil_append, Ev_seq, Ev_region, Ev_skip, Ev_exit, Ev_ret, Ev_block, Ev_cond, Ev_ghost, Ev_draw_calm, GoOn_cmp, GoOn_nil, GoOn_thn, GoOn_thn_e, GoOn_thn_r, GoOn_blk, GoOn_blk_e, GoOn_blk_r, onN_n, onN_e, onN_r, Round_n, Round_e, Round_r, EvC_t, EvC_f, EvW_t, EvW_f, EvR_some, EvN_some, EvO_cons, EvO_nil, wanted, exec, put, passed, opd,
    List.length_cons, List.length_nil, Nat.zero_add, Nat.reduceAdd, List.replicate_succ, List.replicate_zero, List.set_cons_zero, List.set_cons_succ, List.getD_cons_zero, List.getD_cons_succ, Option.map_some, Option.map_none, List.map_cons, List.map_nil,
    bin_add, bin_sub, bin_mul, bin_eql, bin_neq, bin_lss, bin_leq, bin_gtr, bin_geq, bin_quo_nat, bin_rem_nat, bin_or_hi, bin_shr32, bin_shl32, lenV_slice, lenV_ref, ne_eq, not_false_eq_true, beq_true, beq_false, Bool.not_true, Bool.not_false, wrap_i64, wrap_u64, dec_t, dec_f, ite_t, ite_f, ibeq_t, ibeq_f, ibne_t, ibne_f, index_slice, index_ref, slice_slice_hi, slice_ref_hi, Int.natCast_add, Int.cast_ofNat_Int, Int.add_sub_cancel, Int.toNat_natCast, Int.toNat_natCast_add_one, Int.reduceToNat, Nat.mul_one, load_dg, shareL_dg, adoptV, if_true, if_false, ite_true, ite_false, Bool.true_eq, Bool.false_eq_true, beq_self_eq_true, reduceCtorEq, reduceIte, Nat.reduceMul, Nat.reduceSub, Nat.reduceLT, Nat.reduceLeDiff, Nat.reduceEqDiff, norm, keepLive, compact, List.range_zero, List.range_succ, List.nil_append, List.cons_append, List.append_nil, List.contains_cons, List.contains_nil, Bool.or_false, Bool.or_true, Bool.false_or, Bool.true_or, Nat.reduceBEq, beq_self_eq_true, idsL, ids, addId, List.filter_cons, List.filter_nil, decide_true, decide_false, List.map_cons, List.map_nil, maskD, within, withinL, mapD, mapL, subRows, getRow, List.idxOf_cons, List.idxOf_nil, cond_true, cond_false, Bool.and_true, Bool.true_and, if_true, if_false, Bool.false_eq_true, List.length_cons, List.length_nil, Nat.zero_add, Nat.reduceAdd, Nat.reduceLT, List.getD_cons_zero, List.getD_cons_succ, List.set_cons_zero, List.set_cons_succ, reduceIte, reduceCtorEq, callV, takeArgs, takeV, lendArgs, lendV, lendVs, List.headD_cons, List.headD_nil, List.tail_cons, List.tail_nil, List.contains_cons, List.contains_nil, m_al, m_sl, m_ol, m_ll, m_la, m_ls, m_lo, Bool.or_false, Bool.or_true, Bool.false_or, Bool.true_or, idsL, ids, madeV, shareV, shareVs, adoptV, adoptVs, ownOnly, ownOnlyL, Bool.true_and, Bool.and_true, Bool.and_false, Bool.false_and, List.isEmpty_nil, List.isEmpty_cons, giveV, giveVs, Bool.not_false, Bool.not_true, reduceCtorEq, Bool.false_eq_true, if_false, if_true, comps, zeros, fill, layAt, List.zip_cons_cons, List.zip_nil_left, List.zip_nil_right, List.all_cons, List.all_nil, storable, List.append_nil, List.cons_append, List.nil_append, true_and, and_self, Nat.le_refl, Bool.and_self, giveVs, giveV, adoptV, madeV, Option.map_some, List.map_cons, List.map_nil, loadV_addr, Nat.add_zero, storeV, setCells, layAt, cellsAt, borrow, borrowL, cut, theRow, comps, giveVs, giveV, List.getElem?_cons_zero, List.getElem?_cons_succ, List.drop_zero, List.take_succ_cons, List.take_zero, List.take_nil, List.all_cons, List.all_nil, storable, scalarD, Bool.and_self, Bool.false_eq_true, if_false, if_true, and_true, true_and, and_self, Nat.le_refl, false_implies, forall_const, forall_false, imp_false, not_false_eq_true, adoptVs, adoptV, c1, ld2, hsg, lendVs, lend_slice0, shareL_frs, shareL_dg, shareV, shareL, shareD]
      exact ⟨m, by omega, j + 1, by omega, rfl⟩

set_option maxHeartbeats 2000000 in
theorem gcount_ok (h : Has1 T) (bs : List (List Frac3)) (hk : Good T bs) (hl : bs.length ≤ 63) : callW T 2 [gsp bs] [] = some (natO (digs (cnt (lens bs))), []) := by
  refine callW_ev (h 2 (.code F.f2) rfl) rfl ?_
  have tv := gvalid_ok h bs hk (by omega)
  have tf : callW T 22 [.int .u64 1] [] = some (natO (digs 1), []) := from_ok h 1 (by omega)
  simp only [F.f2, gsp, natO, adoptVs, adoptV, List.cons_append, List.nil_append] at tv tf ⊢
  simp -implicitDefEqProofs (disch := first | omega | (apply calm_by; decide)) only [List.cons_append, List.nil_append, Ev_seq, Ev_region, Ev_skip, Ev_exit, Ev_ret, Ev_block, Ev_cond, Ev_ghost, Ev_draw_calm, GoOn_cmp, GoOn_nil, GoOn_thn, GoOn_thn_e, GoOn_thn_r, GoOn_blk, GoOn_blk_e, GoOn_blk_r, onN_n, onN_e, onN_r, Round_n, Round_e, Round_r, EvC_t, EvC_f, EvW_t, EvW_f, EvR_some, EvN_some, EvO_cons, EvO_nil, wanted, exec, put, passed, opd,
    List.length_cons, List.length_nil, Nat.zero_add, Nat.reduceAdd, List.replicate_succ, List.replicate_zero, List.set_cons_zero, List.set_cons_succ, List.getD_cons_zero, List.getD_cons_succ, Option.map_some, Option.map_none, List.map_cons, List.map_nil,
    bin_add, bin_sub, bin_mul, bin_eql, bin_neq, bin_lss, bin_leq, bin_gtr, bin_geq, bin_quo_nat, bin_rem_nat, bin_or_hi, bin_shr32, bin_shl32, lenV_slice, lenV_ref, ne_eq, not_false_eq_true, beq_true, beq_false, Bool.not_true, Bool.not_false, wrap_i64, wrap_u64, dec_t, dec_f, ite_t, ite_f, ibeq_t, ibeq_f, ibne_t, ibne_f, index_slice, index_ref, slice_slice_hi, slice_ref_hi, Int.natCast_add, Int.cast_ofNat_Int, Int.add_sub_cancel, Int.toNat_natCast, Int.toNat_natCast_add_one, Int.reduceToNat, Nat.mul_one, load_dg, shareL_dg, adoptV, if_true, if_false, ite_true, ite_false, Bool.true_eq, Bool.false_eq_true, beq_self_eq_true, reduceCtorEq, reduceIte, Nat.reduceMul, Nat.reduceSub, Nat.reduceLT, Nat.reduceLeDiff, Nat.reduceEqDiff, callV, takeArgs, takeV, lendArgs, lendV, lendVs, List.headD_cons, List.headD_nil, List.tail_cons, List.tail_nil, List.contains_cons, List.contains_nil, m_al, m_sl, m_ol, m_ll, m_la, m_ls, m_lo, Bool.or_false, Bool.or_true, Bool.false_or, Bool.true_or, idsL, ids, madeV, shareV, shareVs, adoptV, adoptVs, ownOnly, ownOnlyL, Bool.true_and, Bool.and_true, Bool.and_false, Bool.false_and, List.isEmpty_nil, List.isEmpty_cons, giveV, giveVs, Bool.not_false, Bool.not_true, reduceCtorEq, Bool.false_eq_true, if_false, if_true, comps, zeros, fill, layAt, List.zip_cons_cons, List.zip_nil_left, List.zip_nil_right, List.all_cons, List.all_nil, storable, List.append_nil, List.cons_append, List.nil_append, true_and, and_self, Nat.le_refl, Bool.and_self, giveVs, giveV, adoptV, madeV, Option.map_some, List.map_cons, List.map_nil, loadV_addr, Nat.add_zero, storeV, setCells, layAt, cellsAt, borrow, borrowL, cut, theRow, comps, giveVs, giveV, List.getElem?_cons_zero, List.getElem?_cons_succ, List.drop_zero, List.take_succ_cons, List.take_zero, List.take_nil, List.all_cons, List.all_nil, storable, scalarD, Bool.and_self, Bool.false_eq_true, if_false, if_true, and_true, true_and, and_self, Nat.le_refl, false_implies, forall_const, forall_false, imp_false, not_false_eq_true, adoptVs, adoptV, shareL_gblks, shareV, tv, lendVs, lend_slice0, natO, un, tf]
  refine Ev_loop (fun n st => ∃ (i : Nat) (A : List Nat), i + n = bs.length ∧ A = digs (cnt ((lens bs).take i)) ∧ st = ⟨[.undef, .undef, .undef, .ref 0 [] 0 0 A.length 1, .undef, .slice false 1 bs.length (gblks bs), .int .i64 bs.length, .int .i64 i], [], [some ⟨dg A, false, 0, 0⟩], 0⟩) bs.length ⟨0, digs 1, by omega, rfl, ?_⟩ ?_
  · simp only [norm, keepLive, compact, List.range_zero, List.range_succ, List.nil_append, List.cons_append, List.append_nil, List.contains_cons, List.contains_nil, Bool.or_false, Bool.or_true, Bool.false_or, Bool.true_or, Nat.reduceBEq, beq_self_eq_true, idsL, ids, addId, List.filter_cons, List.filter_nil, decide_true, decide_false, List.map_cons, List.map_nil, maskD, within, withinL, mapD, mapL, subRows, getRow, List.idxOf_cons, List.idxOf_nil, cond_true, cond_false, Bool.and_true, Bool.true_and, if_true, if_false, Bool.false_eq_true, List.length_cons, List.length_nil, Nat.zero_add, Nat.reduceAdd, Nat.reduceLT, List.getD_cons_zero, List.getD_cons_succ, List.set_cons_zero, List.set_cons_succ, reduceIte, reduceCtorEq]; rfl
  rintro n st ⟨i, A, hi, hA, rfl⟩
  have hll := lens_length bs
  cases n with
  | zero =>
    rw [List.take_of_length_le (by omega)] at hA
    rw [← hA]
    simp -implicitDefEqProofs (disch := first | omega | (apply calm_by; decide)) only [List.cons_append, List.nil_append, Ev_seq, Ev_region, Ev_skip, Ev_exit, Ev_ret, Ev_block, Ev_cond, Ev_ghost, Ev_draw_calm, GoOn_cmp, GoOn_nil, GoOn_thn, GoOn_thn_e, GoOn_thn_r, GoOn_blk, GoOn_blk_e, GoOn_blk_r, onN_n, onN_e, onN_r, Round_n, Round_e, Round_r, EvC_t, EvC_f, EvW_t, EvW_f, EvR_some, EvN_some, EvO_cons, EvO_nil, wanted, exec, put, passed, opd,
    List.length_cons, List.length_nil, Nat.zero_add, Nat.reduceAdd, List.replicate_succ, List.replicate_zero, List.set_cons_zero, List.set_cons_succ, List.getD_cons_zero, List.getD_cons_succ, Option.map_some, Option.map_none, List.map_cons, List.map_nil,
    bin_add, bin_sub, bin_mul, bin_eql, bin_neq, bin_lss, bin_leq, bin_gtr, bin_geq, bin_quo_nat, bin_rem_nat, bin_or_hi, bin_shr32, bin_shl32, lenV_slice, lenV_ref, ne_eq, not_false_eq_true, beq_true, beq_false, Bool.not_true, Bool.not_false, wrap_i64, wrap_u64, dec_t, dec_f, ite_t, ite_f, ibeq_t, ibeq_f, ibne_t, ibne_f, index_slice, index_ref, slice_slice_hi, slice_ref_hi, Int.natCast_add, Int.cast_ofNat_Int, Int.add_sub_cancel, Int.toNat_natCast, Int.toNat_natCast_add_one, Int.reduceToNat, Nat.mul_one, load_dg, shareL_dg, adoptV, if_true, if_false, ite_true, ite_false, Bool.true_eq, Bool.false_eq_true, beq_self_eq_true, reduceCtorEq, reduceIte, Nat.reduceMul, Nat.reduceSub, Nat.reduceLT, Nat.reduceLeDiff, Nat.reduceEqDiff, callV, takeArgs, takeV, lendArgs, lendV, lendVs, List.headD_cons, List.headD_nil, List.tail_cons, List.tail_nil, List.contains_cons, List.contains_nil, m_al, m_sl, m_ol, m_ll, m_la, m_ls, m_lo, Bool.or_false, Bool.or_true, Bool.false_or, Bool.true_or, idsL, ids, madeV, shareV, shareVs, adoptV, adoptVs, ownOnly, ownOnlyL, Bool.true_and, Bool.and_true, Bool.and_false, Bool.false_and, List.isEmpty_nil, List.isEmpty_cons, giveV, giveVs, Bool.not_false, Bool.not_true, reduceCtorEq, Bool.false_eq_true, if_false, if_true, dg_length, take_dg, List.take_length, ends_n, ends_r, results, resVs, resV, giveV, giveVs, shareV, theRow, List.getElem?_cons_zero, List.getElem?_cons_succ, Option.map_some, List.take_zero, List.take_nil, List.take_succ_cons, take_dg_self, natO]
  | succ n =>
    have hgb := hk.get (i := i) (by omega)
    have hki := hgb.len
    have ld := fun rows => load_gblk rows bs i (by omega)
    have hc := cnt_take (lens bs) i (by omega)
    rw [lens_getD] at hc
    have hlt := cnt_lt (hk.small.take i) (by rw [List.length_take]; omega)
    have lA : A.length ≤ 5 := by rw [hA]; exact digs_length_le hlt
    have dA : Dig A := by rw [hA]; exact dig_digs _
    have vA : val A = cnt ((lens bs).take i) := by rw [hA, val_digs]
    generalize bs.getD i [] = l at *
    have hkk : gblk l = .slice false 3 l.length (frs l) := rfl
    have tr := gradix_ok h l hki
    rw [hkk] at ld tr
    have t2 := from_ok h (l.length + 1) (by omega)
    have l2 : (digs (l.length + 1)).length ≤ 1 := digs_length_le (by omega)
    have t3 := mul_ok h A (digs (l.length + 1)) dA (dig_digs _) (by omega) (by omega)
    rw [vA, val_digs, ← hc] at t3
    simp only [Int.natCast_add, Int.cast_ofNat_Int] at t2
    generalize digs (l.length + 1) = R at *
    simp -implicitDefEqProofs (disch := first | omega | (apply calm_by; decide)) only [List.cons_append, List.nil_append, Ev_seq, Ev_region, Ev_skip, Ev_exit, Ev_ret, Ev_block, Ev_cond, Ev_ghost, Ev_draw_calm, GoOn_cmp, GoOn_nil, GoOn_thn, GoOn_thn_e, GoOn_thn_r, GoOn_blk, GoOn_blk_e, GoOn_blk_r, onN_n, onN_e, onN_r, Round_n, Round_e, Round_r, EvC_t, EvC_f, EvW_t, EvW_f, EvR_some, EvN_some, EvO_cons, EvO_nil, wanted, exec, put, passed, opd,
    List.length_cons, List.length_nil, Nat.zero_add, Nat.reduceAdd, List.replicate_succ, List.replicate_zero, List.set_cons_zero, List.set_cons_succ, List.getD_cons_zero, List.getD_cons_succ, Option.map_some, Option.map_none, List.map_cons, List.map_nil,
    bin_add, bin_sub, bin_mul, bin_eql, bin_neq, bin_lss, bin_leq, bin_gtr, bin_geq, bin_quo_nat, bin_rem_nat, bin_or_hi, bin_shr32, bin_shl32, lenV_slice, lenV_ref, ne_eq, not_false_eq_true, beq_true, beq_false, Bool.not_true, Bool.not_false, wrap_i64, wrap_u64, dec_t, dec_f, ite_t, ite_f, ibeq_t, ibeq_f, ibne_t, ibne_f, index_slice, index_ref, slice_slice_hi, slice_ref_hi, Int.natCast_add, Int.cast_ofNat_Int, Int.add_sub_cancel, Int.toNat_natCast, Int.toNat_natCast_add_one, Int.reduceToNat, Nat.mul_one, load_dg, shareL_dg, adoptV, if_true, if_false, ite_true, ite_false, Bool.true_eq, Bool.false_eq_true, beq_self_eq_true, reduceCtorEq, reduceIte, Nat.reduceMul, Nat.reduceSub, Nat.reduceLT, Nat.reduceLeDiff, Nat.reduceEqDiff, norm, keepLive, compact, List.range_zero, List.range_succ, List.nil_append, List.cons_append, List.append_nil, List.contains_cons, List.contains_nil, Bool.or_false, Bool.or_true, Bool.false_or, Bool.true_or, Nat.reduceBEq, beq_self_eq_true, idsL, ids, addId, List.filter_cons, List.filter_nil, decide_true, decide_false, List.map_cons, List.map_nil, maskD, within, withinL, mapD, mapL, subRows, getRow, List.idxOf_cons, List.idxOf_nil, cond_true, cond_false, Bool.and_true, Bool.true_and, if_true, if_false, Bool.false_eq_true, List.length_cons, List.length_nil, Nat.zero_add, Nat.reduceAdd, Nat.reduceLT, List.getD_cons_zero, List.getD_cons_succ, List.set_cons_zero, List.set_cons_succ, reduceIte, reduceCtorEq, callV, takeArgs, takeV, lendArgs, lendV, lendVs, List.headD_cons, List.headD_nil, List.tail_cons, List.tail_nil, List.contains_cons, List.contains_nil, m_al, m_sl, m_ol, m_ll, m_la, m_ls, m_lo, Bool.or_false, Bool.or_true, Bool.false_or, Bool.true_or, idsL, ids, madeV, shareV, shareVs, adoptV, adoptVs, ownOnly, ownOnlyL, Bool.true_and, Bool.and_true, Bool.and_false, Bool.false_and, List.isEmpty_nil, List.isEmpty_cons, giveV, giveVs, Bool.not_false, Bool.not_true, reduceCtorEq, Bool.false_eq_true, if_false, if_true, comps, zeros, fill, layAt, List.zip_cons_cons, List.zip_nil_left, List.zip_nil_right, List.all_cons, List.all_nil, storable, List.append_nil, List.cons_append, List.nil_append, true_and, and_self, Nat.le_refl, Bool.and_self, giveVs, giveV, adoptV, madeV, Option.map_some, List.map_cons, List.map_nil, loadV_addr, Nat.add_zero, storeV, setCells, layAt, cellsAt, borrow, borrowL, cut, theRow, comps, giveVs, giveV, List.getElem?_cons_zero, List.getElem?_cons_succ, List.drop_zero, List.take_succ_cons, List.take_zero, List.take_nil, List.all_cons, List.all_nil, storable, scalarD, Bool.and_self, Bool.false_eq_true, if_false, if_true, and_true, true_and, and_self, Nat.le_refl, false_implies, forall_const, forall_false, imp_false, not_false_eq_true, adoptVs, adoptV, ld, lendVs, lend_slice0, shareL_frs, shareL_gblks, shareL_dg, dg_length, take_dg_self, shareV, tr, t2, t3, natO, ownOnlyL_dg]
    exact ⟨n, by omega, i + 1, _, by omega, rfl, rfl⟩
end
end Av
namespace Av
open Go
set_option linter.unusedSimpArgs false
set_option linter.unusedVariables false
/-- The number of binary digits of a list of digits. -/
def blen (A : List Nat) : Nat := if A.length = 0 then 0 else 32 * (A.length - 1) + bl (A.getD (A.length - 1) 0)
section
variable {T : Nat → Option Fun}
theorem bitLen_ok (h : Has1 T) (a : List Nat) (ha : Dig a) (hl : a.length ≤ 2 ^ 40) : callW T 6 [.slice false 1 a.length (dg a)] [] = some (.int .i64 (blen (digs (val a)) : Nat), []) := by
  refine callW_ev (h 6 (.code F.f6) rfl) rfl ?_
  simp only [F.f6, adoptVs, adoptV, List.cons_append, List.nil_append]
  have t1 := trim_shared h a ha (by omega)
  have l1 := val_len ha
  have d1 := dig_digs (val a)
  generalize digs (val a) = A at *
  simp -implicitDefEqProofs (disch := first | omega | (apply calm_by; decide)) only [List.cons_append, List.nil_append, Ev_seq, Ev_region, Ev_skip, Ev_exit, Ev_ret, Ev_block, Ev_cond, Ev_ghost, Ev_draw_calm, GoOn_cmp, GoOn_nil, GoOn_thn, GoOn_thn_e, GoOn_thn_r, GoOn_blk, GoOn_blk_e, GoOn_blk_r, onN_n, onN_e, onN_r, Round_n, Round_e, Round_r, EvC_t, EvC_f, EvW_t, EvW_f, EvR_some, EvN_some, EvO_cons, EvO_nil, wanted, exec, put, passed, opd,
    List.length_cons, List.length_nil, Nat.zero_add, Nat.reduceAdd, List.replicate_succ, List.replicate_zero, List.set_cons_zero, List.set_cons_succ, List.getD_cons_zero, List.getD_cons_succ, Option.map_some, Option.map_none, List.map_cons, List.map_nil,
    bin_add, bin_sub, bin_mul, bin_eql, bin_neq, bin_lss, bin_leq, bin_gtr, bin_geq, bin_quo_nat, bin_rem_nat, bin_or_hi, bin_shr32, bin_shl32, lenV_slice, lenV_ref, ne_eq, not_false_eq_true, beq_true, beq_false, Bool.not_true, Bool.not_false, wrap_i64, wrap_u64, dec_t, dec_f, ite_t, ite_f, ibeq_t, ibeq_f, ibne_t, ibne_f, index_slice, index_ref, slice_slice_hi, slice_ref_hi, Int.natCast_add, Int.cast_ofNat_Int, Int.add_sub_cancel, Int.toNat_natCast, Int.toNat_natCast_add_one, Int.reduceToNat, Nat.mul_one, load_dg, shareL_dg, adoptV, if_true, if_false, ite_true, ite_false, Bool.true_eq, Bool.false_eq_true, beq_self_eq_true, reduceCtorEq, reduceIte, Nat.reduceMul, Nat.reduceSub, Nat.reduceLT, Nat.reduceLeDiff, Nat.reduceEqDiff, callV, takeArgs, takeV, lendArgs, lendV, lendVs, List.headD_cons, List.headD_nil, List.tail_cons, List.tail_nil, List.contains_cons, List.contains_nil, m_al, m_sl, m_ol, m_ll, m_la, m_ls, m_lo, Bool.or_false, Bool.or_true, Bool.false_or, Bool.true_or, idsL, ids, madeV, shareV, shareVs, adoptV, adoptVs, ownOnly, ownOnlyL, Bool.true_and, Bool.and_true, Bool.and_false, Bool.false_and, List.isEmpty_nil, List.isEmpty_cons, giveV, giveVs, Bool.not_false, Bool.not_true, reduceCtorEq, Bool.false_eq_true, if_false, if_true, t1]
  by_cases c : A.length = 0
  · have e : blen A = 0 := by unfold blen; rw [if_pos c]
    simp -implicitDefEqProofs (disch := first | omega | (apply calm_by; decide)) only [List.cons_append, List.nil_append, Ev_seq, Ev_region, Ev_skip, Ev_exit, Ev_ret, Ev_block, Ev_cond, Ev_ghost, Ev_draw_calm, GoOn_cmp, GoOn_nil, GoOn_thn, GoOn_thn_e, GoOn_thn_r, GoOn_blk, GoOn_blk_e, GoOn_blk_r, onN_n, onN_e, onN_r, Round_n, Round_e, Round_r, EvC_t, EvC_f, EvW_t, EvW_f, EvR_some, EvN_some, EvO_cons, EvO_nil, wanted, exec, put, passed, opd,
    List.length_cons, List.length_nil, Nat.zero_add, Nat.reduceAdd, List.replicate_succ, List.replicate_zero, List.set_cons_zero, List.set_cons_succ, List.getD_cons_zero, List.getD_cons_succ, Option.map_some, Option.map_none, List.map_cons, List.map_nil,
    bin_add, bin_sub, bin_mul, bin_eql, bin_neq, bin_lss, bin_leq, bin_gtr, bin_geq, bin_quo_nat, bin_rem_nat, bin_or_hi, bin_shr32, bin_shl32, lenV_slice, lenV_ref, ne_eq, not_false_eq_true, beq_true, beq_false, Bool.not_true, Bool.not_false, wrap_i64, wrap_u64, dec_t, dec_f, ite_t, ite_f, ibeq_t, ibeq_f, ibne_t, ibne_f, index_slice, index_ref, slice_slice_hi, slice_ref_hi, Int.natCast_add, Int.cast_ofNat_Int, Int.add_sub_cancel, Int.toNat_natCast, Int.toNat_natCast_add_one, Int.reduceToNat, Nat.mul_one, load_dg, shareL_dg, adoptV, if_true, if_false, ite_true, ite_false, Bool.true_eq, Bool.false_eq_true, beq_self_eq_true, reduceCtorEq, reduceIte, Nat.reduceMul, Nat.reduceSub, Nat.reduceLT, Nat.reduceLeDiff, Nat.reduceEqDiff, dg_length, take_dg, List.take_length, ends_n, ends_r, results, resVs, resV, giveV, giveVs, shareV, theRow, List.getElem?_cons_zero, List.getElem?_cons_succ, Option.map_some, List.take_zero, List.take_nil, List.take_succ_cons, e]
  · have e : blen A = 32 * (A.length - 1) + bl (A.getD (A.length - 1) 0) := by unfold blen; rw [if_neg c]
    obtain ⟨m, hm⟩ : ∃ m, A.length = m + 1 := ⟨A.length - 1, by omega⟩
    have g := d1.get m
    have tl := len32_ok h (A.getD m 0) g
    have hb : bl (A.getD m 0) ≤ 32 := bl_le (n := 32) (by omega)
    have ld := fun rows => load_dg rows A m (by omega)
    rw [hm] at e ⊢
    rw [Nat.add_sub_cancel] at e
    have c1 : ((m : Int) + 1 - 1).toNat = m := by omega
    rw [e]
    generalize A.getD m 0 = x at *
    generalize bl x = y at *
    simp -implicitDefEqProofs (disch := first | omega | (apply calm_by; decide)) only [List.cons_append, List.nil_append, Ev_seq, Ev_region, Ev_skip, Ev_exit, Ev_ret, Ev_block, Ev_cond, Ev_ghost, Ev_draw_calm, GoOn_cmp, GoOn_nil, GoOn_thn, GoOn_thn_e, GoOn_thn_r, GoOn_blk, GoOn_blk_e, GoOn_blk_r, onN_n, onN_e, onN_r, Round_n, Round_e, Round_r, EvC_t, EvC_f, EvW_t, EvW_f, EvR_some, EvN_some, EvO_cons, EvO_nil, wanted, exec, put, passed, opd,
    List.length_cons, List.length_nil, Nat.zero_add, Nat.reduceAdd, List.replicate_succ, List.replicate_zero, List.set_cons_zero, List.set_cons_succ, List.getD_cons_zero, List.getD_cons_succ, Option.map_some, Option.map_none, List.map_cons, List.map_nil,
    bin_add, bin_sub, bin_mul, bin_eql, bin_neq, bin_lss, bin_leq, bin_gtr, bin_geq, bin_quo_nat, bin_rem_nat, bin_or_hi, bin_shr32, bin_shl32, lenV_slice, lenV_ref, ne_eq, not_false_eq_true, beq_true, beq_false, Bool.not_true, Bool.not_false, wrap_i64, wrap_u64, dec_t, dec_f, ite_t, ite_f, ibeq_t, ibeq_f, ibne_t, ibne_f, index_slice, index_ref, slice_slice_hi, slice_ref_hi, Int.natCast_add, Int.cast_ofNat_Int, Int.add_sub_cancel, Int.toNat_natCast, Int.toNat_natCast_add_one, Int.reduceToNat, Nat.mul_one, load_dg, shareL_dg, adoptV, if_true, if_false, ite_true, ite_false, Bool.true_eq, Bool.false_eq_true, beq_self_eq_true, reduceCtorEq, reduceIte, Nat.reduceMul, Nat.reduceSub, Nat.reduceLT, Nat.reduceLeDiff, Nat.reduceEqDiff, callV, takeArgs, takeV, lendArgs, lendV, lendVs, List.headD_cons, List.headD_nil, List.tail_cons, List.tail_nil, List.contains_cons, List.contains_nil, m_al, m_sl, m_ol, m_ll, m_la, m_ls, m_lo, Bool.or_false, Bool.or_true, Bool.false_or, Bool.true_or, idsL, ids, madeV, shareV, shareVs, adoptV, adoptVs, ownOnly, ownOnlyL, Bool.true_and, Bool.and_true, Bool.and_false, Bool.false_and, List.isEmpty_nil, List.isEmpty_cons, giveV, giveVs, Bool.not_false, Bool.not_true, reduceCtorEq, Bool.false_eq_true, if_false, if_true, dg_length, take_dg, List.take_length, ends_n, ends_r, results, resVs, resV, giveV, giveVs, shareV, theRow, List.getElem?_cons_zero, List.getElem?_cons_succ, Option.map_some, List.take_zero, List.take_nil, List.take_succ_cons, ld, tl, c1, Int.natCast_mul]
theorem one_ok (h : Has1 T) : callW T 9 [] [] = some (natO [1], []) := by
  refine callW_ev (h 9 (.code F.f9) rfl) rfl ?_
  simp only [F.f9, adoptVs, adoptV, List.cons_append, List.nil_append]
  simp -implicitDefEqProofs (disch := first | omega | (apply calm_by; decide)) only [List.cons_append, List.nil_append, Ev_seq, Ev_region, Ev_skip, Ev_exit, Ev_ret, Ev_block, Ev_cond, Ev_ghost, Ev_draw_calm, GoOn_cmp, GoOn_nil, GoOn_thn, GoOn_thn_e, GoOn_thn_r, GoOn_blk, GoOn_blk_e, GoOn_blk_r, onN_n, onN_e, onN_r, Round_n, Round_e, Round_r, EvC_t, EvC_f, EvW_t, EvW_f, EvR_some, EvN_some, EvO_cons, EvO_nil, wanted, exec, put, passed, opd,
    List.length_cons, List.length_nil, Nat.zero_add, Nat.reduceAdd, List.replicate_succ, List.replicate_zero, List.set_cons_zero, List.set_cons_succ, List.getD_cons_zero, List.getD_cons_succ, Option.map_some, Option.map_none, List.map_cons, List.map_nil,
    bin_add, bin_sub, bin_mul, bin_eql, bin_neq, bin_lss, bin_leq, bin_gtr, bin_geq, bin_quo_nat, bin_rem_nat, bin_or_hi, bin_shr32, bin_shl32, lenV_slice, lenV_ref, ne_eq, not_false_eq_true, beq_true, beq_false, Bool.not_true, Bool.not_false, wrap_i64, wrap_u64, dec_t, dec_f, ite_t, ite_f, ibeq_t, ibeq_f, ibne_t, ibne_f, index_slice, index_ref, slice_slice_hi, slice_ref_hi, Int.natCast_add, Int.cast_ofNat_Int, Int.add_sub_cancel, Int.toNat_natCast, Int.toNat_natCast_add_one, Int.reduceToNat, Nat.mul_one, load_dg, shareL_dg, adoptV, if_true, if_false, ite_true, ite_false, Bool.true_eq, Bool.false_eq_true, beq_self_eq_true, reduceCtorEq, reduceIte, Nat.reduceMul, Nat.reduceSub, Nat.reduceLT, Nat.reduceLeDiff, Nat.reduceEqDiff, callV, takeArgs, takeV, lendArgs, lendV, lendVs, List.headD_cons, List.headD_nil, List.tail_cons, List.tail_nil, List.contains_cons, List.contains_nil, m_al, m_sl, m_ol, m_ll, m_la, m_ls, m_lo, Bool.or_false, Bool.or_true, Bool.false_or, Bool.true_or, idsL, ids, madeV, shareV, shareVs, adoptV, adoptVs, ownOnly, ownOnlyL, Bool.true_and, Bool.and_true, Bool.and_false, Bool.false_and, List.isEmpty_nil, List.isEmpty_cons, giveV, giveVs, Bool.not_false, Bool.not_true, reduceCtorEq, Bool.false_eq_true, if_false, if_true, comps, zeros, fill, layAt, List.zip_cons_cons, List.zip_nil_left, List.zip_nil_right, List.all_cons, List.all_nil, storable, List.append_nil, List.cons_append, List.nil_append, true_and, and_self, Nat.le_refl, Bool.and_self, giveVs, giveV, adoptV, madeV, Option.map_some, List.map_cons, List.map_nil, loadV_addr, Nat.add_zero, storeV, setCells, layAt, cellsAt, borrow, borrowL, cut, theRow, comps, giveVs, giveV, List.getElem?_cons_zero, List.getElem?_cons_succ, List.drop_zero, List.take_succ_cons, List.take_zero, List.take_nil, List.all_cons, List.all_nil, storable, scalarD, Bool.and_self, Bool.false_eq_true, if_false, if_true, and_true, true_and, and_self, Nat.le_refl, false_implies, forall_const, forall_false, imp_false, not_false_eq_true, adoptVs, adoptV, dg_length, take_dg, List.take_length, ends_n, ends_r, results, resVs, resV, giveV, giveVs, shareV, theRow, List.getElem?_cons_zero, List.getElem?_cons_succ, Option.map_some, List.take_zero, List.take_nil, List.take_succ_cons]
  rfl
theorem blen_zero {n : Nat} (h : n = 0) : blen (digs n) = 0 := by subst h; rw [digs_zero]; rfl
theorem blen_pos {n : Nat} (h : n ≠ 0) : blen (digs n) ≠ 0 := by
  unfold blen
  rw [digs_pos h]
  rw [if_neg (by simp)]
  rw [← digs_pos h]
  have hl : (digs n).length = ((digs n).length - 1) + 1 := by rw [digs_pos h]; simp
  have ht := digs_top hl
  have := (bl_spec ht).1
  omega
def DigF (f : Frac3) : Prop := Dig f.2.1 ∧ Dig f.2.2 ∧ f.2.1.length ≤ 2 ^ 30 ∧ f.2.2.length ≤ 2 ^ 30
/-- Sign, parts, of a fraction. -/
def zeroF (f : Frac3) : Bool := val f.2.2 == 0 || val f.2.1 == 0
theorem ratParts_ok (h : Has1 T) (f : Frac3) (df : DigF f) : callW T 5 [.agg (frC f)] [] =
    some (if zeroF f then .tup [.bool false, .slice true 1 0 [], natO [1]] else .tup (frC f), []) := by
  refine callW_ev (h 5 (.code F.f5) rfl) rfl ?_
  obtain ⟨b, n, d⟩ := f
  obtain ⟨d1, d2, l1, l2⟩ := df
  simp only at d1 d2 l1 l2
  have t1 := bitLen_ok h n d1 (by omega)
  have t2 := bitLen_ok h d d2 (by omega)
  have to := one_ok h
  have z1 := blen_zero (n := val n)
  have z2 := blen_zero (n := val d)
  have p1 := blen_pos (n := val n)
  have p2 := blen_pos (n := val d)
  simp only [F.f5, frC, zeroF, natO, adoptVs, adoptV, List.cons_append, List.nil_append] at to ⊢
  generalize blen (digs (val n)) = x at *
  generalize blen (digs (val d)) = y at *
  by_cases c1 : val d = 0
  · have hy := z2 c1
    subst hy
    simp -implicitDefEqProofs (disch := first | omega | (apply calm_by; decide)) only [List.cons_append, List.nil_append, Ev_seq, Ev_region, Ev_skip, Ev_exit, Ev_ret, Ev_block, Ev_cond, Ev_ghost, Ev_draw_calm, GoOn_cmp, GoOn_nil, GoOn_thn, GoOn_thn_e, GoOn_thn_r, GoOn_blk, GoOn_blk_e, GoOn_blk_r, onN_n, onN_e, onN_r, Round_n, Round_e, Round_r, EvC_t, EvC_f, EvW_t, EvW_f, EvR_some, EvN_some, EvO_cons, EvO_nil, wanted, exec, put, passed, opd,
    List.length_cons, List.length_nil, Nat.zero_add, Nat.reduceAdd, List.replicate_succ, List.replicate_zero, List.set_cons_zero, List.set_cons_succ, List.getD_cons_zero, List.getD_cons_succ, Option.map_some, Option.map_none, List.map_cons, List.map_nil,
    bin_add, bin_sub, bin_mul, bin_eql, bin_neq, bin_lss, bin_leq, bin_gtr, bin_geq, bin_quo_nat, bin_rem_nat, bin_or_hi, bin_shr32, bin_shl32, lenV_slice, lenV_ref, ne_eq, not_false_eq_true, beq_true, beq_false, Bool.not_true, Bool.not_false, wrap_i64, wrap_u64, dec_t, dec_f, ite_t, ite_f, ibeq_t, ibeq_f, ibne_t, ibne_f, index_slice, index_ref, slice_slice_hi, slice_ref_hi, Int.natCast_add, Int.cast_ofNat_Int, Int.add_sub_cancel, Int.toNat_natCast, Int.toNat_natCast_add_one, Int.reduceToNat, Nat.mul_one, load_dg, shareL_dg, adoptV, if_true, if_false, ite_true, ite_false, Bool.true_eq, Bool.false_eq_true, beq_self_eq_true, reduceCtorEq, reduceIte, Nat.reduceMul, Nat.reduceSub, Nat.reduceLT, Nat.reduceLeDiff, Nat.reduceEqDiff, callV, takeArgs, takeV, lendArgs, lendV, lendVs, List.headD_cons, List.headD_nil, List.tail_cons, List.tail_nil, List.contains_cons, List.contains_nil, m_al, m_sl, m_ol, m_ll, m_la, m_ls, m_lo, Bool.or_false, Bool.or_true, Bool.false_or, Bool.true_or, idsL, ids, madeV, shareV, shareVs, adoptV, adoptVs, ownOnly, ownOnlyL, Bool.true_and, Bool.and_true, Bool.and_false, Bool.false_and, List.isEmpty_nil, List.isEmpty_cons, giveV, giveVs, Bool.not_false, Bool.not_true, reduceCtorEq, Bool.false_eq_true, if_false, if_true, comps, zeros, fill, layAt, List.zip_cons_cons, List.zip_nil_left, List.zip_nil_right, List.all_cons, List.all_nil, storable, List.append_nil, List.cons_append, List.nil_append, true_and, and_self, Nat.le_refl, Bool.and_self, giveVs, giveV, adoptV, madeV, Option.map_some, List.map_cons, List.map_nil, loadV_addr, Nat.add_zero, storeV, setCells, layAt, cellsAt, borrow, borrowL, cut, theRow, comps, giveVs, giveV, List.getElem?_cons_zero, List.getElem?_cons_succ, List.drop_zero, List.take_succ_cons, List.take_zero, List.take_nil, List.all_cons, List.all_nil, storable, scalarD, Bool.and_self, Bool.false_eq_true, if_false, if_true, and_true, true_and, and_self, Nat.le_refl, false_implies, forall_const, forall_false, imp_false, not_false_eq_true, adoptVs, adoptV, dg_length, take_dg, List.take_length, ends_n, ends_r, results, resVs, resV, giveV, giveVs, shareV, theRow, List.getElem?_cons_zero, List.getElem?_cons_succ, Option.map_some, List.take_zero, List.take_nil, List.take_succ_cons, c1, t1, t2, to, lendVs, lend_slice0, shareL_dg]
  by_cases c2 : val n = 0
  · have hx := z1 c2
    have hy := p2 c1
    subst hx
    simp -implicitDefEqProofs (disch := first | omega | (apply calm_by; decide)) only [List.cons_append, List.nil_append, Ev_seq, Ev_region, Ev_skip, Ev_exit, Ev_ret, Ev_block, Ev_cond, Ev_ghost, Ev_draw_calm, GoOn_cmp, GoOn_nil, GoOn_thn, GoOn_thn_e, GoOn_thn_r, GoOn_blk, GoOn_blk_e, GoOn_blk_r, onN_n, onN_e, onN_r, Round_n, Round_e, Round_r, EvC_t, EvC_f, EvW_t, EvW_f, EvR_some, EvN_some, EvO_cons, EvO_nil, wanted, exec, put, passed, opd,
    List.length_cons, List.length_nil, Nat.zero_add, Nat.reduceAdd, List.replicate_succ, List.replicate_zero, List.set_cons_zero, List.set_cons_succ, List.getD_cons_zero, List.getD_cons_succ, Option.map_some, Option.map_none, List.map_cons, List.map_nil,
    bin_add, bin_sub, bin_mul, bin_eql, bin_neq, bin_lss, bin_leq, bin_gtr, bin_geq, bin_quo_nat, bin_rem_nat, bin_or_hi, bin_shr32, bin_shl32, lenV_slice, lenV_ref, ne_eq, not_false_eq_true, beq_true, beq_false, Bool.not_true, Bool.not_false, wrap_i64, wrap_u64, dec_t, dec_f, ite_t, ite_f, ibeq_t, ibeq_f, ibne_t, ibne_f, index_slice, index_ref, slice_slice_hi, slice_ref_hi, Int.natCast_add, Int.cast_ofNat_Int, Int.add_sub_cancel, Int.toNat_natCast, Int.toNat_natCast_add_one, Int.reduceToNat, Nat.mul_one, load_dg, shareL_dg, adoptV, if_true, if_false, ite_true, ite_false, Bool.true_eq, Bool.false_eq_true, beq_self_eq_true, reduceCtorEq, reduceIte, Nat.reduceMul, Nat.reduceSub, Nat.reduceLT, Nat.reduceLeDiff, Nat.reduceEqDiff, callV, takeArgs, takeV, lendArgs, lendV, lendVs, List.headD_cons, List.headD_nil, List.tail_cons, List.tail_nil, List.contains_cons, List.contains_nil, m_al, m_sl, m_ol, m_ll, m_la, m_ls, m_lo, Bool.or_false, Bool.or_true, Bool.false_or, Bool.true_or, idsL, ids, madeV, shareV, shareVs, adoptV, adoptVs, ownOnly, ownOnlyL, Bool.true_and, Bool.and_true, Bool.and_false, Bool.false_and, List.isEmpty_nil, List.isEmpty_cons, giveV, giveVs, Bool.not_false, Bool.not_true, reduceCtorEq, Bool.false_eq_true, if_false, if_true, comps, zeros, fill, layAt, List.zip_cons_cons, List.zip_nil_left, List.zip_nil_right, List.all_cons, List.all_nil, storable, List.append_nil, List.cons_append, List.nil_append, true_and, and_self, Nat.le_refl, Bool.and_self, giveVs, giveV, adoptV, madeV, Option.map_some, List.map_cons, List.map_nil, loadV_addr, Nat.add_zero, storeV, setCells, layAt, cellsAt, borrow, borrowL, cut, theRow, comps, giveVs, giveV, List.getElem?_cons_zero, List.getElem?_cons_succ, List.drop_zero, List.take_succ_cons, List.take_zero, List.take_nil, List.all_cons, List.all_nil, storable, scalarD, Bool.and_self, Bool.false_eq_true, if_false, if_true, and_true, true_and, and_self, Nat.le_refl, false_implies, forall_const, forall_false, imp_false, not_false_eq_true, adoptVs, adoptV, dg_length, take_dg, List.take_length, ends_n, ends_r, results, resVs, resV, giveV, giveVs, shareV, theRow, List.getElem?_cons_zero, List.getElem?_cons_succ, Option.map_some, List.take_zero, List.take_nil, List.take_succ_cons, c1, c2, t1, t2, to, lendVs, lend_slice0, shareL_dg]
  · have hx := p1 c2
    have hy := p2 c1
    simp -implicitDefEqProofs (disch := first | omega | (apply calm_by; decide)) only [List.cons_append, List.nil_append, Ev_seq, Ev_region, Ev_skip, Ev_exit, Ev_ret, Ev_block, Ev_cond, Ev_ghost, Ev_draw_calm, GoOn_cmp, GoOn_nil, GoOn_thn, GoOn_thn_e, GoOn_thn_r, GoOn_blk, GoOn_blk_e, GoOn_blk_r, onN_n, onN_e, onN_r, Round_n, Round_e, Round_r, EvC_t, EvC_f, EvW_t, EvW_f, EvR_some, EvN_some, EvO_cons, EvO_nil, wanted, exec, put, passed, opd,
    List.length_cons, List.length_nil, Nat.zero_add, Nat.reduceAdd, List.replicate_succ, List.replicate_zero, List.set_cons_zero, List.set_cons_succ, List.getD_cons_zero, List.getD_cons_succ, Option.map_some, Option.map_none, List.map_cons, List.map_nil,
    bin_add, bin_sub, bin_mul, bin_eql, bin_neq, bin_lss, bin_leq, bin_gtr, bin_geq, bin_quo_nat, bin_rem_nat, bin_or_hi, bin_shr32, bin_shl32, lenV_slice, lenV_ref, ne_eq, not_false_eq_true, beq_true, beq_false, Bool.not_true, Bool.not_false, wrap_i64, wrap_u64, dec_t, dec_f, ite_t, ite_f, ibeq_t, ibeq_f, ibne_t, ibne_f, index_slice, index_ref, slice_slice_hi, slice_ref_hi, Int.natCast_add, Int.cast_ofNat_Int, Int.add_sub_cancel, Int.toNat_natCast, Int.toNat_natCast_add_one, Int.reduceToNat, Nat.mul_one, load_dg, shareL_dg, adoptV, if_true, if_false, ite_true, ite_false, Bool.true_eq, Bool.false_eq_true, beq_self_eq_true, reduceCtorEq, reduceIte, Nat.reduceMul, Nat.reduceSub, Nat.reduceLT, Nat.reduceLeDiff, Nat.reduceEqDiff, callV, takeArgs, takeV, lendArgs, lendV, lendVs, List.headD_cons, List.headD_nil, List.tail_cons, List.tail_nil, List.contains_cons, List.contains_nil, m_al, m_sl, m_ol, m_ll, m_la, m_ls, m_lo, Bool.or_false, Bool.or_true, Bool.false_or, Bool.true_or, idsL, ids, madeV, shareV, shareVs, adoptV, adoptVs, ownOnly, ownOnlyL, Bool.true_and, Bool.and_true, Bool.and_false, Bool.false_and, List.isEmpty_nil, List.isEmpty_cons, giveV, giveVs, Bool.not_false, Bool.not_true, reduceCtorEq, Bool.false_eq_true, if_false, if_true, comps, zeros, fill, layAt, List.zip_cons_cons, List.zip_nil_left, List.zip_nil_right, List.all_cons, List.all_nil, storable, List.append_nil, List.cons_append, List.nil_append, true_and, and_self, Nat.le_refl, Bool.and_self, giveVs, giveV, adoptV, madeV, Option.map_some, List.map_cons, List.map_nil, loadV_addr, Nat.add_zero, storeV, setCells, layAt, cellsAt, borrow, borrowL, cut, theRow, comps, giveVs, giveV, List.getElem?_cons_zero, List.getElem?_cons_succ, List.drop_zero, List.take_succ_cons, List.take_zero, List.take_nil, List.all_cons, List.all_nil, storable, scalarD, Bool.and_self, Bool.false_eq_true, if_false, if_true, and_true, true_and, and_self, Nat.le_refl, false_implies, forall_const, forall_false, imp_false, not_false_eq_true, adoptVs, adoptV, dg_length, take_dg, List.take_length, ends_n, ends_r, results, resVs, resV, giveV, giveVs, shareV, theRow, List.getElem?_cons_zero, List.getElem?_cons_succ, Option.map_some, List.take_zero, List.take_nil, List.take_succ_cons, norm, keepLive, compact, List.range_zero, List.range_succ, List.nil_append, List.cons_append, List.append_nil, List.contains_cons, List.contains_nil, Bool.or_false, Bool.or_true, Bool.false_or, Bool.true_or, Nat.reduceBEq, beq_self_eq_true, idsL, ids, addId, List.filter_cons, List.filter_nil, decide_true, decide_false, List.map_cons, List.map_nil, maskD, within, withinL, mapD, mapL, subRows, getRow, List.idxOf_cons, List.idxOf_nil, cond_true, cond_false, Bool.and_true, Bool.true_and, if_true, if_false, Bool.false_eq_true, List.length_cons, List.length_nil, Nat.zero_add, Nat.reduceAdd, Nat.reduceLT, List.getD_cons_zero, List.getD_cons_succ, List.set_cons_zero, List.set_cons_succ, reduceIte, reduceCtorEq, c1, c2, t1, t2, to, lendVs, lend_slice0, shareL_dg]
    simp [c1, c2]
theorem sign_ok (h : Has1 T) (f : Frac3) (df : DigF f) : callW T 4 [.agg (frC f)] [] = some (.int .i64 (if zeroF f then 0 else if f.1 then -1 else 1), []) := by
  refine callW_ev (h 4 (.code F.f4) rfl) rfl ?_
  have tp := ratParts_ok h f df
  obtain ⟨b, n, d⟩ := f
  obtain ⟨d1, d2, l1, l2⟩ := df
  simp only at d1 d2 l1 l2
  have t1 := bitLen_ok h n d1 (by omega)
  have t0 : callW T 6 [.slice false 1 0 []] [] = some (.int .i64 0, []) := by
    have := bitLen_ok h [] (fun x hx => by simp at hx) (by simp)
    rw [val, blen_zero rfl] at this
    exact this
  have p1 := blen_pos (n := val n)
  simp only [F.f4, frC, natO, adoptVs, adoptV, List.cons_append, List.nil_append] at tp ⊢
  generalize blen (digs (val n)) = x at *
  by_cases c : zeroF (b, n, d) = true
  · rw [if_pos c] at tp ⊢
    simp -implicitDefEqProofs (disch := first | omega | (apply calm_by; decide)) only [List.cons_append, List.nil_append, Ev_seq, Ev_region, Ev_skip, Ev_exit, Ev_ret, Ev_block, Ev_cond, Ev_ghost, Ev_draw_calm, GoOn_cmp, GoOn_nil, GoOn_thn, GoOn_thn_e, GoOn_thn_r, GoOn_blk, GoOn_blk_e, GoOn_blk_r, onN_n, onN_e, onN_r, Round_n, Round_e, Round_r, EvC_t, EvC_f, EvW_t, EvW_f, EvR_some, EvN_some, EvO_cons, EvO_nil, wanted, exec, put, passed, opd,
    List.length_cons, List.length_nil, Nat.zero_add, Nat.reduceAdd, List.replicate_succ, List.replicate_zero, List.set_cons_zero, List.set_cons_succ, List.getD_cons_zero, List.getD_cons_succ, Option.map_some, Option.map_none, List.map_cons, List.map_nil,
    bin_add, bin_sub, bin_mul, bin_eql, bin_neq, bin_lss, bin_leq, bin_gtr, bin_geq, bin_quo_nat, bin_rem_nat, bin_or_hi, bin_shr32, bin_shl32, lenV_slice, lenV_ref, ne_eq, not_false_eq_true, beq_true, beq_false, Bool.not_true, Bool.not_false, wrap_i64, wrap_u64, dec_t, dec_f, ite_t, ite_f, ibeq_t, ibeq_f, ibne_t, ibne_f, index_slice, index_ref, slice_slice_hi, slice_ref_hi, Int.natCast_add, Int.cast_ofNat_Int, Int.add_sub_cancel, Int.toNat_natCast, Int.toNat_natCast_add_one, Int.reduceToNat, Nat.mul_one, load_dg, shareL_dg, adoptV, if_true, if_false, ite_true, ite_false, Bool.true_eq, Bool.false_eq_true, beq_self_eq_true, reduceCtorEq, reduceIte, Nat.reduceMul, Nat.reduceSub, Nat.reduceLT, Nat.reduceLeDiff, Nat.reduceEqDiff, callV, takeArgs, takeV, lendArgs, lendV, lendVs, List.headD_cons, List.headD_nil, List.tail_cons, List.tail_nil, List.contains_cons, List.contains_nil, m_al, m_sl, m_ol, m_ll, m_la, m_ls, m_lo, Bool.or_false, Bool.or_true, Bool.false_or, Bool.true_or, idsL, ids, madeV, shareV, shareVs, adoptV, adoptVs, ownOnly, ownOnlyL, Bool.true_and, Bool.and_true, Bool.and_false, Bool.false_and, List.isEmpty_nil, List.isEmpty_cons, giveV, giveVs, Bool.not_false, Bool.not_true, reduceCtorEq, Bool.false_eq_true, if_false, if_true, comps, zeros, fill, layAt, List.zip_cons_cons, List.zip_nil_left, List.zip_nil_right, List.all_cons, List.all_nil, storable, List.append_nil, List.cons_append, List.nil_append, true_and, and_self, Nat.le_refl, Bool.and_self, giveVs, giveV, adoptV, madeV, Option.map_some, List.map_cons, List.map_nil, loadV_addr, Nat.add_zero, storeV, setCells, layAt, cellsAt, borrow, borrowL, cut, theRow, comps, giveVs, giveV, List.getElem?_cons_zero, List.getElem?_cons_succ, List.drop_zero, List.take_succ_cons, List.take_zero, List.take_nil, List.all_cons, List.all_nil, storable, scalarD, Bool.and_self, Bool.false_eq_true, if_false, if_true, and_true, true_and, and_self, Nat.le_refl, false_implies, forall_const, forall_false, imp_false, not_false_eq_true, adoptVs, adoptV, dg_length, take_dg, List.take_length, ends_n, ends_r, results, resVs, resV, giveV, giveVs, shareV, theRow, List.getElem?_cons_zero, List.getElem?_cons_succ, Option.map_some, List.take_zero, List.take_nil, List.take_succ_cons, shareV, shareVs, shareL, shareL_dg, tp, t0]
  · have hx : x ≠ 0 := p1 (fun hc => c (by simp [zeroF, hc]))
    rw [if_neg c] at tp ⊢
    cases b with
    | true =>
      simp -implicitDefEqProofs (disch := first | omega | (apply calm_by; decide)) only [List.cons_append, List.nil_append, Ev_seq, Ev_region, Ev_skip, Ev_exit, Ev_ret, Ev_block, Ev_cond, Ev_ghost, Ev_draw_calm, GoOn_cmp, GoOn_nil, GoOn_thn, GoOn_thn_e, GoOn_thn_r, GoOn_blk, GoOn_blk_e, GoOn_blk_r, onN_n, onN_e, onN_r, Round_n, Round_e, Round_r, EvC_t, EvC_f, EvW_t, EvW_f, EvR_some, EvN_some, EvO_cons, EvO_nil, wanted, exec, put, passed, opd,
    List.length_cons, List.length_nil, Nat.zero_add, Nat.reduceAdd, List.replicate_succ, List.replicate_zero, List.set_cons_zero, List.set_cons_succ, List.getD_cons_zero, List.getD_cons_succ, Option.map_some, Option.map_none, List.map_cons, List.map_nil,
    bin_add, bin_sub, bin_mul, bin_eql, bin_neq, bin_lss, bin_leq, bin_gtr, bin_geq, bin_quo_nat, bin_rem_nat, bin_or_hi, bin_shr32, bin_shl32, lenV_slice, lenV_ref, ne_eq, not_false_eq_true, beq_true, beq_false, Bool.not_true, Bool.not_false, wrap_i64, wrap_u64, dec_t, dec_f, ite_t, ite_f, ibeq_t, ibeq_f, ibne_t, ibne_f, index_slice, index_ref, slice_slice_hi, slice_ref_hi, Int.natCast_add, Int.cast_ofNat_Int, Int.add_sub_cancel, Int.toNat_natCast, Int.toNat_natCast_add_one, Int.reduceToNat, Nat.mul_one, load_dg, shareL_dg, adoptV, if_true, if_false, ite_true, ite_false, Bool.true_eq, Bool.false_eq_true, beq_self_eq_true, reduceCtorEq, reduceIte, Nat.reduceMul, Nat.reduceSub, Nat.reduceLT, Nat.reduceLeDiff, Nat.reduceEqDiff, callV, takeArgs, takeV, lendArgs, lendV, lendVs, List.headD_cons, List.headD_nil, List.tail_cons, List.tail_nil, List.contains_cons, List.contains_nil, m_al, m_sl, m_ol, m_ll, m_la, m_ls, m_lo, Bool.or_false, Bool.or_true, Bool.false_or, Bool.true_or, idsL, ids, madeV, shareV, shareVs, adoptV, adoptVs, ownOnly, ownOnlyL, Bool.true_and, Bool.and_true, Bool.and_false, Bool.false_and, List.isEmpty_nil, List.isEmpty_cons, giveV, giveVs, Bool.not_false, Bool.not_true, reduceCtorEq, Bool.false_eq_true, if_false, if_true, comps, zeros, fill, layAt, List.zip_cons_cons, List.zip_nil_left, List.zip_nil_right, List.all_cons, List.all_nil, storable, List.append_nil, List.cons_append, List.nil_append, true_and, and_self, Nat.le_refl, Bool.and_self, giveVs, giveV, adoptV, madeV, Option.map_some, List.map_cons, List.map_nil, loadV_addr, Nat.add_zero, storeV, setCells, layAt, cellsAt, borrow, borrowL, cut, theRow, comps, giveVs, giveV, List.getElem?_cons_zero, List.getElem?_cons_succ, List.drop_zero, List.take_succ_cons, List.take_zero, List.take_nil, List.all_cons, List.all_nil, storable, scalarD, Bool.and_self, Bool.false_eq_true, if_false, if_true, and_true, true_and, and_self, Nat.le_refl, false_implies, forall_const, forall_false, imp_false, not_false_eq_true, adoptVs, adoptV, dg_length, take_dg, List.take_length, ends_n, ends_r, results, resVs, resV, giveV, giveVs, shareV, theRow, List.getElem?_cons_zero, List.getElem?_cons_succ, Option.map_some, List.take_zero, List.take_nil, List.take_succ_cons, shareV, shareVs, shareL, shareL_dg, tp, t1]
    | false =>
      simp -implicitDefEqProofs (disch := first | omega | (apply calm_by; decide)) only [List.cons_append, List.nil_append, Ev_seq, Ev_region, Ev_skip, Ev_exit, Ev_ret, Ev_block, Ev_cond, Ev_ghost, Ev_draw_calm, GoOn_cmp, GoOn_nil, GoOn_thn, GoOn_thn_e, GoOn_thn_r, GoOn_blk, GoOn_blk_e, GoOn_blk_r, onN_n, onN_e, onN_r, Round_n, Round_e, Round_r, EvC_t, EvC_f, EvW_t, EvW_f, EvR_some, EvN_some, EvO_cons, EvO_nil, wanted, exec, put, passed, opd,
    List.length_cons, List.length_nil, Nat.zero_add, Nat.reduceAdd, List.replicate_succ, List.replicate_zero, List.set_cons_zero, List.set_cons_succ, List.getD_cons_zero, List.getD_cons_succ, Option.map_some, Option.map_none, List.map_cons, List.map_nil,
    bin_add, bin_sub, bin_mul, bin_eql, bin_neq, bin_lss, bin_leq, bin_gtr, bin_geq, bin_quo_nat, bin_rem_nat, bin_or_hi, bin_shr32, bin_shl32, lenV_slice, lenV_ref, ne_eq, not_false_eq_true, beq_true, beq_false, Bool.not_true, Bool.not_false, wrap_i64, wrap_u64, dec_t, dec_f, ite_t, ite_f, ibeq_t, ibeq_f, ibne_t, ibne_f, index_slice, index_ref, slice_slice_hi, slice_ref_hi, Int.natCast_add, Int.cast_ofNat_Int, Int.add_sub_cancel, Int.toNat_natCast, Int.toNat_natCast_add_one, Int.reduceToNat, Nat.mul_one, load_dg, shareL_dg, adoptV, if_true, if_false, ite_true, ite_false, Bool.true_eq, Bool.false_eq_true, beq_self_eq_true, reduceCtorEq, reduceIte, Nat.reduceMul, Nat.reduceSub, Nat.reduceLT, Nat.reduceLeDiff, Nat.reduceEqDiff, callV, takeArgs, takeV, lendArgs, lendV, lendVs, List.headD_cons, List.headD_nil, List.tail_cons, List.tail_nil, List.contains_cons, List.contains_nil, m_al, m_sl, m_ol, m_ll, m_la, m_ls, m_lo, Bool.or_false, Bool.or_true, Bool.false_or, Bool.true_or, idsL, ids, madeV, shareV, shareVs, adoptV, adoptVs, ownOnly, ownOnlyL, Bool.true_and, Bool.and_true, Bool.and_false, Bool.false_and, List.isEmpty_nil, List.isEmpty_cons, giveV, giveVs, Bool.not_false, Bool.not_true, reduceCtorEq, Bool.false_eq_true, if_false, if_true, comps, zeros, fill, layAt, List.zip_cons_cons, List.zip_nil_left, List.zip_nil_right, List.all_cons, List.all_nil, storable, List.append_nil, List.cons_append, List.nil_append, true_and, and_self, Nat.le_refl, Bool.and_self, giveVs, giveV, adoptV, madeV, Option.map_some, List.map_cons, List.map_nil, loadV_addr, Nat.add_zero, storeV, setCells, layAt, cellsAt, borrow, borrowL, cut, theRow, comps, giveVs, giveV, List.getElem?_cons_zero, List.getElem?_cons_succ, List.drop_zero, List.take_succ_cons, List.take_zero, List.take_nil, List.all_cons, List.all_nil, storable, scalarD, Bool.and_self, Bool.false_eq_true, if_false, if_true, and_true, true_and, and_self, Nat.le_refl, false_implies, forall_const, forall_false, imp_false, not_false_eq_true, adoptVs, adoptV, dg_length, take_dg, List.take_length, ends_n, ends_r, results, resVs, resV, giveV, giveVs, shareV, theRow, List.getElem?_cons_zero, List.getElem?_cons_succ, Option.map_some, List.take_zero, List.take_nil, List.take_succ_cons, shareV, shareVs, shareL, shareL_dg, tp, t1]
end
end Av
namespace Av
open Go
set_option linter.unusedSimpArgs false
set_option linter.unusedVariables false
theorem zeros_i64 : ∀ n, zeros [.int .i64 0] n = di (List.replicate n 0)
  | 0 => rfl
  | n + 1 => by rw [zeros, zeros_i64 n]; rfl
theorem di_set (a : List Int) (i : Nat) (z : Int) : (di a).set i (.int .i64 z) = di (a.set i z) := by simp [di, List.map_set]
theorem take_di_self (a : List Int) (n : Nat) (h : a.length = n) : (di a).take n = di a := by rw [List.take_of_length_le]; rw [di_length]; omega
theorem wAt_set (ks : List Nat) (n j : Nat) (hj : j < ks.length) : (List.replicate (j + 1) 0 ++ wAt (ks.drop (j + 1)) n).set j (chI (ks.getD j 0) (n / cnt (ks.drop (j + 1)) % (ks.getD j 0 + 1))) = List.replicate j 0 ++ wAt (ks.drop j) n := by
  rw [List.replicate_succ', List.append_assoc, List.set_append_right _ _ (by simp), List.length_replicate, Nat.sub_self, drop_get ks j hj]
  rfl
section
variable {T : Nat → Option Fun}
end
end Av
namespace Av
open Go
set_option linter.unusedSimpArgs false
set_option linter.unusedVariables false
/-- credencebase.World. -/
def wldF (raw : List Int) (ks : List Nat) (i : Nat) : Int := ((atN raw i % (ks.getD i 0 + 1) : Nat) : Int) - 1
def wld (raw : List Int) (ks : List Nat) (n : Nat) : List Int := (List.range n).map (wldF raw ks)
section
variable {T : Nat → Option Fun}
end
end Av
namespace Av
open Go
set_option linter.unusedSimpArgs false
set_option linter.unusedVariables false
/-- Blocks that are the frame's own. -/
def zfO (k : Nat) : List D := zeros [.bool false, .slice true 1 0 [], .slice true 1 0 []] k
def blkO (k : Nat) : D := .slice true 3 k (zfO k)
def blksO (ks : List Nat) : List D := ks.map blkO
theorem ownOnlyL_di : ∀ a : List Int, ownOnlyL (di a) = true
  | [] => rfl
  | x :: a => by
    have := ownOnlyL_di a
    simp only [di] at this
    simp only [di, List.map_cons, ownOnlyL, ownOnly, this, Bool.and_self]
/-- The sizes of the law's blocks. -/
def kss (raw : List Int) (n : Nat) : List Nat := (List.range n).map fun i => atN raw i % 5
section
variable {T : Nat → Option Fun}
end
end Av
namespace Av
open Go
/-- The numbers of credencebase.Prob, and half of them. -/
def pf : List Frac3 := [(false, [1], [2]), (false, [1], [3]), (false, [2], [3]), (false, [1], [4]), (false, [1], [1]), (false, [], [1]), (false, [3], [5]), (false, [1], [7])]
def hf : List Frac3 := [(false, [1], [4]), (false, [1], [6]), (false, [1], [3]), (false, [1], [8]), (false, [1], [2]), (false, [], [1]), (false, [3], [10]), (false, [1], [14])]
end Av
namespace Av
open Go
set_option linter.unusedSimpArgs false
set_option linter.unusedVariables false
def nums : List Int := [1, 1, 2, 1, 1, 0, 3, 1]
def dens : List Int := [2, 3, 3, 4, 1, 1, 5, 7]
/-- What the kernel tells of FracNew and FracMul. -/
structure QF (T : Nat → Option Fun) : Prop where
  new : ∀ i, i < 8 → callW T 46 [.int .i64 (nums.getD i 0), .int .i64 (dens.getD i 0)] [] = some (.tup [.agg (frO (pf.getD i (false, [], []))), .int .i64 0], [])
  mul : ∀ i, i < 8 → callW T 64 [.agg (frC (pf.getD i (false, [], []))), .agg (frC (false, [1], [2]))] [] = some (.agg (frO (hf.getD i (false, [], []))), [])
theorem bin_and_7 (a : Nat) : bin .and (.int .i64 a) (.int .i64 7) = some (.int .i64 (a % 8 : Nat)) := by
  rw [bin_and]
  have h := toNat_ofInt_and 64 a 3 (by omega)
  simp only [Nat.reducePow, Nat.reduceSub, Int.cast_ofNat_Int] at h
  rw [show IntKind.i64.bits = 64 from rfl, h, wrap_i64 _ (by omega)]
  congr 2
theorem bin_shr_i (k' : IntKind) (a s : Nat) (hs : s < 64) : bin .shr (.int .i64 a) (.int k' s) = some (.int .i64 ((a / 2 ^ s : Nat) : Int)) := by
  rw [bin_shr _ _ _ _ (by omega)]
  have e : min (Int.toNat (s : Int)) IntKind.i64.bits = s := by
    rw [Int.toNat_natCast]; show min s 64 = s; omega
  rw [e, Int.fdiv_eq_ediv_of_nonneg _ (Int.pow_nonneg (by omega))]
  congr 2
section
variable {T : Nat → Option Fun}
set_option maxHeartbeats 2000000 in
theorem prob_ok (h : Has1 T) (q : QF T) (n : Nat) : callW T 45 [.int .i64 n] [] = some (.agg (frO (pf.getD (n % 8) (false, [], []))), []) := by
  refine callW_ev (h 45 (.code F.f45) rfl) rfl ?_
  have hm := Nat.mod_lt n (show 0 < 8 by omega)
  have tq := q.new _ hm
  simp only [F.f45, adoptVs, adoptV, List.cons_append, List.nil_append]
  generalize hi : n % 8 = i at *
  have ha := bin_and_7 n
  rw [hi] at ha
  have hc : i = 0 ∨ i = 1 ∨ i = 2 ∨ i = 3 ∨ i = 4 ∨ i = 5 ∨ i = 6 ∨ i = 7 := by omega
  have l1 : loadV [some ⟨[.bool false, .slice true 1 0 [], .slice true 1 0 []], false, 0, 0⟩] false 1 (.faddr [.int .i64 1, .int .i64 1, .int .i64 2, .int .i64 1, .int .i64 1, .int .i64 0, .int .i64 3, .int .i64 1] i) = some (.int .i64 (nums.getD i 0)) := by
    rcases hc with rfl | rfl | rfl | rfl | rfl | rfl | rfl | rfl <;> rfl
  have l2 : loadV [some ⟨[.bool false, .slice true 1 0 [], .slice true 1 0 []], false, 0, 0⟩] false 1 (.faddr [.int .i64 2, .int .i64 3, .int .i64 3, .int .i64 4, .int .i64 1, .int .i64 1, .int .i64 5, .int .i64 7] i) = some (.int .i64 (dens.getD i 0)) := by
    rcases hc with rfl | rfl | rfl | rfl | rfl | rfl | rfl | rfl <;> rfl
  generalize nums.getD i 0 = x at *
  generalize dens.getD i 0 = y at *
  generalize pf.getD i (false, [], []) = f at *
  obtain ⟨b, A, B⟩ := f
  simp only [frO] at tq ⊢
  simp -implicitDefEqProofs (maxSteps := 4000000) (disch := first | omega | (apply calm_by; decide)) only [List.cons_append, List.nil_append, Ev_seq, Ev_region, Ev_skip, Ev_exit, Ev_ret, Ev_block, Ev_cond, Ev_ghost, Ev_draw_calm, GoOn_cmp, GoOn_nil, GoOn_thn, GoOn_thn_e, GoOn_thn_r, GoOn_blk, GoOn_blk_e, GoOn_blk_r, onN_n, onN_e, onN_r, Round_n, Round_e, Round_r, EvC_t, EvC_f, EvW_t, EvW_f, EvR_some, EvN_some, EvO_cons, EvO_nil, wanted, exec, put, passed, opd,
    List.length_cons, List.length_nil, Nat.zero_add, Nat.reduceAdd, List.replicate_succ, List.replicate_zero, List.set_cons_zero, List.set_cons_succ, List.getD_cons_zero, List.getD_cons_succ, Option.map_some, Option.map_none, List.map_cons, List.map_nil,
    bin_add, bin_sub, bin_mul, bin_eql, bin_neq, bin_lss, bin_leq, bin_gtr, bin_geq, bin_quo_nat, bin_rem_nat, bin_or_hi, bin_shr32, bin_shl32, lenV_slice, lenV_ref, ne_eq, not_false_eq_true, beq_true, beq_false, Bool.not_true, Bool.not_false, wrap_i64, wrap_u64, dec_t, dec_f, ite_t, ite_f, ibeq_t, ibeq_f, ibne_t, ibne_f, index_slice, index_ref, slice_slice_hi, slice_ref_hi, Int.natCast_add, Int.cast_ofNat_Int, Int.add_sub_cancel, Int.toNat_natCast, Int.toNat_natCast_add_one, Int.reduceToNat, Nat.mul_one, load_dg, shareL_dg, adoptV, if_true, if_false, ite_true, ite_false, Bool.true_eq, Bool.false_eq_true, beq_self_eq_true, reduceCtorEq, reduceIte, Nat.reduceMul, Nat.reduceSub, Nat.reduceLT, Nat.reduceLeDiff, Nat.reduceEqDiff, callV, takeArgs, takeV, lendArgs, lendV, lendVs, List.headD_cons, List.headD_nil, List.tail_cons, List.tail_nil, List.contains_cons, List.contains_nil, m_al, m_sl, m_ol, m_ll, m_la, m_ls, m_lo, Bool.or_false, Bool.or_true, Bool.false_or, Bool.true_or, idsL, ids, madeV, shareV, shareVs, adoptV, adoptVs, ownOnly, ownOnlyL, Bool.true_and, Bool.and_true, Bool.and_false, Bool.false_and, List.isEmpty_nil, List.isEmpty_cons, giveV, giveVs, Bool.not_false, Bool.not_true, reduceCtorEq, Bool.false_eq_true, if_false, if_true, comps, zeros, fill, layAt, List.zip_cons_cons, List.zip_nil_left, List.zip_nil_right, List.all_cons, List.all_nil, storable, List.append_nil, List.cons_append, List.nil_append, true_and, and_self, Nat.le_refl, Bool.and_self, giveVs, giveV, adoptV, madeV, Option.map_some, List.map_cons, List.map_nil, loadV_addr, Nat.add_zero, storeV, setCells, layAt, cellsAt, borrow, borrowL, cut, theRow, comps, giveVs, giveV, List.getElem?_cons_zero, List.getElem?_cons_succ, List.drop_zero, List.take_succ_cons, List.take_zero, List.take_nil, List.all_cons, List.all_nil, storable, scalarD, Bool.and_self, Bool.false_eq_true, if_false, if_true, and_true, true_and, and_self, Nat.le_refl, false_implies, forall_const, forall_false, imp_false, not_false_eq_true, adoptVs, adoptV, dg_length, take_dg, List.take_length, ends_n, ends_r, results, resVs, resV, giveV, giveVs, shareV, theRow, List.getElem?_cons_zero, List.getElem?_cons_succ, Option.map_some, List.take_zero, List.take_nil, List.take_succ_cons, appendV, appendSrc, giveV, giveVs, theRow, cellsAt, List.getElem?_cons_zero, List.getElem?_cons_succ, List.drop_zero, List.take_succ_cons, List.take_zero, List.take_nil, Nat.zero_sub, Nat.sub_zero, Bool.false_eq_true, if_false, if_true, and_true, true_and, and_self, Nat.le_refl, List.length_cons, List.length_nil, List.cons_append, List.nil_append, List.append_nil, takeCells, List.append_nil, List.drop_succ_cons, shareL, shareD, dg_length, take_dg_self, ha, l1, l2, tq]
end
end Av
namespace Av
open Go
set_option linter.unusedSimpArgs false
set_option linter.unusedVariables false
def frsO (l : List Frac3) : List D := l.flatMap frO
def gblkO (l : List Frac3) : D := .slice true 3 l.length (frsO l)
def gblksO (bs : List (List Frac3)) : List D := bs.map gblkO
theorem shareL_frsO : ∀ l : List Frac3, shareL (frsO l) = frs l
  | [] => rfl
  | f :: l => by
    have := shareL_frsO l
    simp only [frs, frsO] at this
    simp only [frs, frsO, List.flatMap_cons, shareL_append, this, shareL_frO]
theorem frsO_length : ∀ l : List Frac3, (frsO l).length = l.length * 3
  | [] => rfl
  | f :: l => by
    have := frsO_length l
    simp only [frsO] at this
    simp only [frsO, List.flatMap_cons, List.length_append, this, List.length_cons, frO, List.length_nil]
    omega
theorem shareL_gblksO : ∀ bs, shareL (gblksO bs) = gblks bs
  | [] => rfl
  | l :: bs => by
    have := shareL_gblksO bs
    simp only [gblks, gblksO] at this
    simp only [gblks, gblksO, List.map_cons, shareL, this, gblk, gblkO, shareD, shareL_frsO]
theorem gblksO_length (bs : List (List Frac3)) : (gblksO bs).length = bs.length := by simp [gblksO]
theorem frsO_append (a b : List Frac3) : frsO (a ++ b) = frsO a ++ frsO b := by simp [frsO]
theorem gblksO_append (a b : List (List Frac3)) : gblksO (a ++ b) = gblksO a ++ gblksO b := by simp [gblksO]
/-- The blocks of credencebase.Space. -/
def spF (n k : Nat) : Frac3 := hf.getD (n / 2 ^ (2 + 3 * k) % 8) (false, [], [])
def spB (n m : Nat) : List Frac3 := (List.range m).map (spF n)
def spS (l : List Int) (c : Nat) : List (List Frac3) := (List.range c).map fun i => spB (atN l (1 + i)) (atN l (1 + i) % 3)
theorem spB_succ (n m : Nat) : spB n (m + 1) = spB n m ++ [spF n m] := by simp [spB, List.range_succ]
theorem spB_length (n m : Nat) : (spB n m).length = m := by simp [spB]
theorem spS_succ (l : List Int) (c : Nat) : spS l (c + 1) = spS l c ++ [spB (atN l (1 + c)) (atN l (1 + c) % 3)] := by simp [spS, List.range_succ]
theorem spS_length (l : List Int) (c : Nat) : (spS l c).length = c := by simp [spS]
section
variable {T : Nat → Option Fun}
def b63i : ACode := (.seq (.seq (.region [⟨.move (.v 6), none, none⟩,
      ⟨.move (.v 5), none, none⟩,
      ⟨.bin .rem (.t 1) (.c (.int .i64 3)), none, none⟩,
      ⟨.bin .lss (.t 0) (.t 2), none, none⟩])
    (.cond (.t 3)
     .skip
     (.exit 2)))
    (.seq (.block 3 (.seq (.region [⟨.move (.v 5), none, none⟩,
      ⟨.move (.v 6), none, none⟩,
      ⟨.bin .mul (.c (.int .i64 3)) (.t 1), none, none⟩,
      ⟨.bin .add (.c (.int .i64 2)) (.t 2), none, none⟩,
      ⟨.conv .u64 (.t 3), none, none⟩,
      ⟨.bin .shr (.t 0) (.t 4), none, none⟩,
      ⟨.call 45 [.asis] .own [(.t 5)], none, none⟩,
      ⟨.alloc [(.bool false), (.slice true 1 0 []), (.slice true 1 0 [])], (some 7), none⟩,
      ⟨.store false 3 (.v 7) (.t 6), none, none⟩])
    (.seq (.region [⟨.call 46 [.asis, .asis] .own [(.c (.int .i64 1)), (.c (.int .i64 2))], none, none⟩,
      ⟨.move (.t 0), none, none⟩,
      ⟨.extract 0 (.t 1), none, none⟩,
      ⟨.extract 1 (.t 1), none, none⟩,
      ⟨.alloc [(.bool false), (.slice true 1 0 []), (.slice true 1 0 [])], (some 8), none⟩,
      ⟨.store false 3 (.v 8) (.t 2), none, none⟩,
      ⟨.assign .asis (.t 3), none, none⟩])
    (.draw [⟨.fieldAddr 0 (.v 4), none, none⟩,
      ⟨.load .asis false 1 (.t 0), none, none⟩,
      ⟨.load .asis true 3 (.v 7), none, none⟩,
      ⟨.load .asis true 3 (.v 8), none, none⟩,
      ⟨.call 64 [.lend, .lend] .own [(.t 2), (.t 3)], none, none⟩,
      ⟨.buildSlice .own [(.bool false), (.slice true 1 0 []), (.slice true 1 0 [])] 1 [(0, (.t 4))], none, none⟩,
      ⟨.append false 3 56 true (.t 1) (.t 5), none, none⟩,
      ⟨.fieldAddr 0 (.v 4), none, none⟩,
      ⟨.store false 1 (.t 7) (.t 6), none, none⟩] [(1, 4), (1, 5)] [0, 0, 0, 0, 2, 1, 1, 0, 0]))))
    (.region [⟨.move (.v 6), none, none⟩,
      ⟨.bin .add (.t 0) (.c (.int .i64 1)), none, none⟩,
      ⟨.assign .asis (.t 1), (some 6), none⟩])))
def st63 (l : List Int) (i n k v v' : Nat) (bs : List (List Frac3)) (fs : List Frac3) (ts : List D) : St :=
  ⟨[.slice false 1 l.length (di l), .addr 0 [] 0 0, .addr 1 [] 0 0, .int .i64 i, .addr 2 [] 0 0, .int .i64 n, .int .i64 k, .undef, .undef], ts,
    [some ⟨[.slice true 1 0 []], false, 0, 0⟩, some ⟨[.slice true 1 i (gblksO bs)], false, 0, v⟩, some ⟨[.slice true 3 k (frsO fs)], false, 0, v'⟩], 0⟩
set_option maxHeartbeats 4000000 in
theorem space_inner (h : Has2 T) (q : QF T) {Qf : AExit → St → Prop} {ks : List Todo} (l : List Int) (i n v v0 : Nat) (bs : List (List Frac3)) (st : St) (hn : n < 2 ^ 40)
    (hst : norm [0, 1, 2, 3, 4, 5, 6] st = st63 l i n 0 v v0 bs [] [])
    (hK : ∀ v' ts, GoOn T Qf ks .normal (st63 l i n (n % 3) v v' bs (spB n (n % 3)) ts)) :
    Ev T (.loop [0, 1, 2, 3, 4, 5, 6] b63i) st (.blk 2 :: ks) Qf := by
  have hm3 := Nat.mod_lt n (show 0 < 3 by omega)
  refine Ev_loop (fun m st => ∃ k v' : Nat, k + m = n % 3 ∧ st = st63 l i n k v v' bs (spB n k) []) (n % 3) ⟨0, v0, by omega, by rw [hst]; rfl⟩ ?_
  clear hst st
  rintro m st ⟨k, v', hk, rfl⟩
  have hrem := bin_rem_nat .i64 n 3 (by omega)
  simp only [Int.cast_ofNat_Int] at hrem
  cases m with
  | zero =>
    have ek : k = n % 3 := by omega
    subst ek
    have fin := hK v' [.int .i64 (n % 3 : Nat), .int .i64 n, .int .i64 (n % 3 : Nat), .bool false]
    simp only [b63i, st63] at fin ⊢
    generalize spB n (n % 3) = fs at *
    generalize n % 3 = k at *
    simp -implicitDefEqProofs (disch := first | omega | (apply calm_by; decide)) only [List.cons_append, List.nil_append, Ev_seq, Ev_region, Ev_skip, Ev_exit, Ev_ret, Ev_block, Ev_cond, Ev_ghost, Ev_draw_calm, GoOn_cmp, GoOn_nil, GoOn_thn, GoOn_thn_e, GoOn_thn_r, GoOn_blk, GoOn_blk_e, GoOn_blk_r, onN_n, onN_e, onN_r, Round_n, Round_e, Round_r, EvC_t, EvC_f, EvW_t, EvW_f, EvR_some, EvN_some, EvO_cons, EvO_nil, wanted, exec, put, passed, opd,
    List.length_cons, List.length_nil, Nat.zero_add, Nat.reduceAdd, List.replicate_succ, List.replicate_zero, List.set_cons_zero, List.set_cons_succ, List.getD_cons_zero, List.getD_cons_succ, Option.map_some, Option.map_none, List.map_cons, List.map_nil,
    bin_add, bin_sub, bin_mul, bin_eql, bin_neq, bin_lss, bin_leq, bin_gtr, bin_geq, bin_quo_nat, bin_rem_nat, bin_or_hi, bin_shr32, bin_shl32, lenV_slice, lenV_ref, ne_eq, not_false_eq_true, beq_true, beq_false, Bool.not_true, Bool.not_false, wrap_i64, wrap_u64, dec_t, dec_f, ite_t, ite_f, ibeq_t, ibeq_f, ibne_t, ibne_f, index_slice, index_ref, slice_slice_hi, slice_ref_hi, Int.natCast_add, Int.cast_ofNat_Int, Int.add_sub_cancel, Int.toNat_natCast, Int.toNat_natCast_add_one, Int.reduceToNat, Nat.mul_one, load_dg, shareL_dg, adoptV, if_true, if_false, ite_true, ite_false, Bool.true_eq, Bool.false_eq_true, beq_self_eq_true, reduceCtorEq, reduceIte, Nat.reduceMul, Nat.reduceSub, Nat.reduceLT, Nat.reduceLeDiff, Nat.reduceEqDiff, hrem]
    exact fin
  | succ m =>
    have tp := prob_ok h.1 q (n / 2 ^ (2 + 3 * k))
    have th := q.new 0 (by omega)
    have hi8 := Nat.mod_lt (n / 2 ^ (2 + 3 * k)) (show 0 < 8 by omega)
    have tm := q.mul _ hi8
    have hsh := bin_shr_i .u64 n (2 + 3 * k) (by omega)
    have hs := spB_succ n k
    have hl := spB_length n k
    have hroom : room (k + 1) 56 = true := room_t _ _ (by omega)
    have e1 : (2 : Int) + 3 * (k : Int) = ((2 + 3 * k : Nat) : Int) := by omega
    have ef : spF n k = hf.getD (n / 2 ^ (2 + 3 * k) % 8) (false, [], []) := rfl
    have hpf0 : pf.getD 0 (false, [], []) = (false, [1], [2]) := rfl
    have hn0 : nums.getD 0 0 = 1 := rfl
    have hd0 : dens.getD 0 0 = 2 := rfl
    rw [hpf0, hn0, hd0] at th
    have hlt : n % 3 = n % 3 := rfl
    generalize 2 + 3 * k = s at *
    generalize spB n k = fs at *
    rw [← ef] at tm
    generalize spF n k = f at *
    generalize n / 2 ^ s = n' at *
    generalize pf.getD (n' % 8) (false, [], []) = p at *
    obtain ⟨pb, pn, pd⟩ := p
    obtain ⟨fb, fn, fd⟩ := f
    simp only [frO, frC, List.length_cons, List.length_nil, Nat.zero_add] at tp th tm
    simp only [b63i, st63]
    have hfl := frsO_length fs
    rw [hl] at hfl
    have hfx : frsO fs ++ [.bool fb, .slice true 1 fn.length (dg fn), .slice true 1 fd.length (dg fd)] = frsO (fs ++ [(fb, fn, fd)]) := by rw [frsO_append]; rfl
    have hfl2 := frsO_length (fs ++ [(fb, fn, fd)])
    rw [List.length_append, hl] at hfl2
    have htk : (frsO (fs ++ [(fb, fn, fd)])).take ((k + 1) * 3) = frsO (fs ++ [(fb, fn, fd)]) := List.take_of_length_le (by rw [hfl2]; exact Nat.le_refl _)
    have e2 : ((3 : Int) * (k : Int)) = ((3 * k : Nat) : Int) := by omega
    simp -implicitDefEqProofs (maxSteps := 4000000) (disch := first | omega | (apply calm_by; decide)) only [List.cons_append, List.nil_append, Ev_seq, Ev_region, Ev_skip, Ev_exit, Ev_ret, Ev_block, Ev_cond, Ev_ghost, Ev_draw_calm, GoOn_cmp, GoOn_nil, GoOn_thn, GoOn_thn_e, GoOn_thn_r, GoOn_blk, GoOn_blk_e, GoOn_blk_r, onN_n, onN_e, onN_r, Round_n, Round_e, Round_r, EvC_t, EvC_f, EvW_t, EvW_f, EvR_some, EvN_some, EvO_cons, EvO_nil, wanted, exec, put, passed, opd,
    List.length_cons, List.length_nil, Nat.zero_add, Nat.reduceAdd, List.replicate_succ, List.replicate_zero, List.set_cons_zero, List.set_cons_succ, List.getD_cons_zero, List.getD_cons_succ, Option.map_some, Option.map_none, List.map_cons, List.map_nil,
    bin_add, bin_sub, bin_mul, bin_eql, bin_neq, bin_lss, bin_leq, bin_gtr, bin_geq, bin_quo_nat, bin_rem_nat, bin_or_hi, bin_shr32, bin_shl32, lenV_slice, lenV_ref, ne_eq, not_false_eq_true, beq_true, beq_false, Bool.not_true, Bool.not_false, wrap_i64, wrap_u64, dec_t, dec_f, ite_t, ite_f, ibeq_t, ibeq_f, ibne_t, ibne_f, index_slice, index_ref, slice_slice_hi, slice_ref_hi, Int.natCast_add, Int.cast_ofNat_Int, Int.add_sub_cancel, Int.toNat_natCast, Int.toNat_natCast_add_one, Int.reduceToNat, Nat.mul_one, load_dg, shareL_dg, adoptV, if_true, if_false, ite_true, ite_false, Bool.true_eq, Bool.false_eq_true, beq_self_eq_true, reduceCtorEq, reduceIte, Nat.reduceMul, Nat.reduceSub, Nat.reduceLT, Nat.reduceLeDiff, Nat.reduceEqDiff, callV, takeArgs, takeV, lendArgs, lendV, lendVs, List.headD_cons, List.headD_nil, List.tail_cons, List.tail_nil, List.contains_cons, List.contains_nil, m_al, m_sl, m_ol, m_ll, m_la, m_ls, m_lo, Bool.or_false, Bool.or_true, Bool.false_or, Bool.true_or, idsL, ids, madeV, shareV, shareVs, adoptV, adoptVs, ownOnly, ownOnlyL, Bool.true_and, Bool.and_true, Bool.and_false, Bool.false_and, List.isEmpty_nil, List.isEmpty_cons, giveV, giveVs, Bool.not_false, Bool.not_true, reduceCtorEq, Bool.false_eq_true, if_false, if_true, comps, zeros, fill, layAt, List.zip_cons_cons, List.zip_nil_left, List.zip_nil_right, List.all_cons, List.all_nil, storable, List.append_nil, List.cons_append, List.nil_append, true_and, and_self, Nat.le_refl, Bool.and_self, giveVs, giveV, adoptV, madeV, Option.map_some, List.map_cons, List.map_nil, loadV_addr, Nat.add_zero, storeV, setCells, layAt, cellsAt, borrow, borrowL, cut, theRow, comps, giveVs, giveV, List.getElem?_cons_zero, List.getElem?_cons_succ, List.drop_zero, List.take_succ_cons, List.take_zero, List.take_nil, List.all_cons, List.all_nil, storable, scalarD, Bool.and_self, Bool.false_eq_true, if_false, if_true, and_true, true_and, and_self, Nat.le_refl, false_implies, forall_const, forall_false, imp_false, not_false_eq_true, adoptVs, adoptV, appendV, appendSrc, giveV, giveVs, theRow, cellsAt, List.getElem?_cons_zero, List.getElem?_cons_succ, List.drop_zero, List.take_succ_cons, List.take_zero, List.take_nil, Nat.zero_sub, Nat.sub_zero, Bool.false_eq_true, if_false, if_true, and_true, true_and, and_self, Nat.le_refl, List.length_cons, List.length_nil, List.cons_append, List.nil_append, List.append_nil, shareL, shareD, shareV, hrem, hsh, e1, tp, th, dg_length, take_dg_self, isU]
    have ht1 : List.take 1 (dg [1]) = dg [1] := rfl
    have ht2 : List.take 1 (dg [2]) = dg [2] := rfl
    have hp1 := take_dg_self pn
    have hp2 := take_dg_self pd
    have hd1 : (dg [1]).length = 1 := rfl
    have hd2 : (dg [2]).length = 1 := rfl
    simp -implicitDefEqProofs (maxSteps := 4000000) (disch := first | omega | (apply calm_by; decide)) only [List.cons_append, List.nil_append, Ev_seq, Ev_region, Ev_skip, Ev_exit, Ev_ret, Ev_block, Ev_cond, Ev_ghost, Ev_draw_calm, GoOn_cmp, GoOn_nil, GoOn_thn, GoOn_thn_e, GoOn_thn_r, GoOn_blk, GoOn_blk_e, GoOn_blk_r, onN_n, onN_e, onN_r, Round_n, Round_e, Round_r, EvC_t, EvC_f, EvW_t, EvW_f, EvR_some, EvN_some, EvO_cons, EvO_nil, wanted, exec, put, passed, opd,
    List.length_cons, List.length_nil, Nat.zero_add, Nat.reduceAdd, List.replicate_succ, List.replicate_zero, List.set_cons_zero, List.set_cons_succ, List.getD_cons_zero, List.getD_cons_succ, Option.map_some, Option.map_none, List.map_cons, List.map_nil,
    bin_add, bin_sub, bin_mul, bin_eql, bin_neq, bin_lss, bin_leq, bin_gtr, bin_geq, bin_quo_nat, bin_rem_nat, bin_or_hi, bin_shr32, bin_shl32, lenV_slice, lenV_ref, ne_eq, not_false_eq_true, beq_true, beq_false, Bool.not_true, Bool.not_false, wrap_i64, wrap_u64, dec_t, dec_f, ite_t, ite_f, ibeq_t, ibeq_f, ibne_t, ibne_f, index_slice, index_ref, slice_slice_hi, slice_ref_hi, Int.natCast_add, Int.cast_ofNat_Int, Int.add_sub_cancel, Int.toNat_natCast, Int.toNat_natCast_add_one, Int.reduceToNat, Nat.mul_one, load_dg, shareL_dg, adoptV, if_true, if_false, ite_true, ite_false, Bool.true_eq, Bool.false_eq_true, beq_self_eq_true, reduceCtorEq, reduceIte, Nat.reduceMul, Nat.reduceSub, Nat.reduceLT, Nat.reduceLeDiff, Nat.reduceEqDiff, Ev_drawn, EvD_cons, EvD_nil, EvDR_some, xd_move, xd_assign, xd_bin, xd_conv, xd_field, xd_index, xd_load, xd_len, xd_extract, xd_build, xd_call, xd_makeSlice, xd_buildSlice, xd_append, xd_store, execAt, opIds, AOp.opds, slotsAt, List.sum_cons, List.sum_nil, List.take_succ_cons, List.take_zero, List.take_nil, List.range'_succ, List.range'_zero, Nat.add_zero, maskD, within, withinL, mapD, mapL, subRows, getRow, writeBack, addId, List.contains_cons, List.contains_nil, Nat.reduceBEq, List.idxOf_cons, List.idxOf_nil, cond_true, cond_false, List.append_nil, List.replicate_succ, List.replicate_zero, List.set_cons_zero, List.set_cons_succ, callV, takeArgs, takeV, lendArgs, lendV, lendVs, List.headD_cons, List.headD_nil, List.tail_cons, List.tail_nil, List.contains_cons, List.contains_nil, m_al, m_sl, m_ol, m_ll, m_la, m_ls, m_lo, Bool.or_false, Bool.or_true, Bool.false_or, Bool.true_or, idsL, ids, madeV, shareV, shareVs, adoptV, adoptVs, ownOnly, ownOnlyL, Bool.true_and, Bool.and_true, Bool.and_false, Bool.false_and, List.isEmpty_nil, List.isEmpty_cons, giveV, giveVs, Bool.not_false, Bool.not_true, reduceCtorEq, Bool.false_eq_true, if_false, if_true, comps, zeros, fill, layAt, List.zip_cons_cons, List.zip_nil_left, List.zip_nil_right, List.all_cons, List.all_nil, storable, List.append_nil, List.cons_append, List.nil_append, true_and, and_self, Nat.le_refl, Bool.and_self, giveVs, giveV, adoptV, madeV, Option.map_some, List.map_cons, List.map_nil, loadV_addr, Nat.add_zero, storeV, setCells, layAt, cellsAt, borrow, borrowL, cut, theRow, comps, giveVs, giveV, List.getElem?_cons_zero, List.getElem?_cons_succ, List.drop_zero, List.take_succ_cons, List.take_zero, List.take_nil, List.all_cons, List.all_nil, storable, scalarD, Bool.and_self, Bool.false_eq_true, if_false, if_true, and_true, true_and, and_self, Nat.le_refl, false_implies, forall_const, forall_false, imp_false, not_false_eq_true, adoptVs, adoptV, appendV, appendSrc, giveV, giveVs, theRow, cellsAt, List.getElem?_cons_zero, List.getElem?_cons_succ, List.drop_zero, List.take_succ_cons, List.take_zero, List.take_nil, Nat.zero_sub, Nat.sub_zero, Bool.false_eq_true, if_false, if_true, and_true, true_and, and_self, Nat.le_refl, List.length_cons, List.length_nil, List.cons_append, List.nil_append, List.append_nil, nav, putNav, setNav, lendVs, ht1, ht2, hp1, hp2, hd1, hd2, tm, shareL, shareD, shareL_dg, ownOnlyL_dg, dg_length, take_dg_self, hfl, hfl2, hfx, htk, hroom, isU, List.length_append, hl]
    refine ⟨rfl, ?_⟩
    simp only [norm, keepLive, compact, List.range_zero, List.range_succ, List.nil_append, List.cons_append, List.append_nil, List.contains_cons, List.contains_nil, Bool.or_false, Bool.or_true, Bool.false_or, Bool.true_or, Nat.reduceBEq, beq_self_eq_true, idsL, ids, addId, List.filter_cons, List.filter_nil, decide_true, decide_false, List.map_cons, List.map_nil, maskD, within, withinL, mapD, mapL, subRows, getRow, List.idxOf_cons, List.idxOf_nil, cond_true, cond_false, Bool.and_true, Bool.true_and, if_true, if_false, Bool.false_eq_true, List.length_cons, List.length_nil, Nat.zero_add, Nat.reduceAdd, Nat.reduceLT, List.getD_cons_zero, List.getD_cons_succ, List.set_cons_zero, List.set_cons_succ, reduceIte, reduceCtorEq]
    simp -implicitDefEqProofs (maxSteps := 4000000) (disch := first | omega | (apply calm_by; decide)) only [List.cons_append, List.nil_append, Ev_seq, Ev_region, Ev_skip, Ev_exit, Ev_ret, Ev_block, Ev_cond, Ev_ghost, Ev_draw_calm, GoOn_cmp, GoOn_nil, GoOn_thn, GoOn_thn_e, GoOn_thn_r, GoOn_blk, GoOn_blk_e, GoOn_blk_r, onN_n, onN_e, onN_r, Round_n, Round_e, Round_r, EvC_t, EvC_f, EvW_t, EvW_f, EvR_some, EvN_some, EvO_cons, EvO_nil, wanted, exec, put, passed, opd,
    List.length_cons, List.length_nil, Nat.zero_add, Nat.reduceAdd, List.replicate_succ, List.replicate_zero, List.set_cons_zero, List.set_cons_succ, List.getD_cons_zero, List.getD_cons_succ, Option.map_some, Option.map_none, List.map_cons, List.map_nil,
    bin_add, bin_sub, bin_mul, bin_eql, bin_neq, bin_lss, bin_leq, bin_gtr, bin_geq, bin_quo_nat, bin_rem_nat, bin_or_hi, bin_shr32, bin_shl32, lenV_slice, lenV_ref, ne_eq, not_false_eq_true, beq_true, beq_false, Bool.not_true, Bool.not_false, wrap_i64, wrap_u64, dec_t, dec_f, ite_t, ite_f, ibeq_t, ibeq_f, ibne_t, ibne_f, index_slice, index_ref, slice_slice_hi, slice_ref_hi, Int.natCast_add, Int.cast_ofNat_Int, Int.add_sub_cancel, Int.toNat_natCast, Int.toNat_natCast_add_one, Int.reduceToNat, Nat.mul_one, load_dg, shareL_dg, adoptV, if_true, if_false, ite_true, ite_false, Bool.true_eq, Bool.false_eq_true, beq_self_eq_true, reduceCtorEq, reduceIte, Nat.reduceMul, Nat.reduceSub, Nat.reduceLT, Nat.reduceLeDiff, Nat.reduceEqDiff, norm, keepLive, compact, List.range_zero, List.range_succ, List.nil_append, List.cons_append, List.append_nil, List.contains_cons, List.contains_nil, Bool.or_false, Bool.or_true, Bool.false_or, Bool.true_or, Nat.reduceBEq, beq_self_eq_true, idsL, ids, addId, List.filter_cons, List.filter_nil, decide_true, decide_false, List.map_cons, List.map_nil, maskD, within, withinL, mapD, mapL, subRows, getRow, List.idxOf_cons, List.idxOf_nil, cond_true, cond_false, Bool.and_true, Bool.true_and, if_true, if_false, Bool.false_eq_true, List.length_cons, List.length_nil, Nat.zero_add, Nat.reduceAdd, Nat.reduceLT, List.getD_cons_zero, List.getD_cons_succ, List.set_cons_zero, List.set_cons_succ, reduceIte, reduceCtorEq]
    exact ⟨m, by omega, k + 1, _, by omega, by rw [hs]; rfl⟩
set_option maxHeartbeats 4000000 in
theorem space_ok (h : Has2 T) (q : QF T) (l : List Int) (hl : l.length < 2 ^ 63) :
    callW T 63 [.slice false 1 l.length (di l)] [] = some (.agg [.slice true 1 (atN l 0 % 6) (gblksO (spS l (atN l 0 % 6)))], []) := by
  refine callW_ev (h.2 1 (.code F.f63) rfl) rfl ?_
  have t0 : callW T 1 [.slice false 1 l.length (di l), .int .i64 0] [] = some (.int .i64 (atN l 0 : Nat), []) := at_ok h.1 l 0 hl (by omega)
  have hrem := bin_rem_nat .i64 (atN l 0) 6 (by omega)
  simp only [Int.cast_ofNat_Int] at hrem
  have hm6 := Nat.mod_lt (atN l 0) (show 0 < 6 by omega)
  generalize atN l 0 % 6 = c at *
  generalize atN l 0 = a0 at *
  simp only [F.f63, adoptVs, adoptV, List.cons_append, List.nil_append]
  simp -implicitDefEqProofs (disch := first | omega | (apply calm_by; decide)) only [List.cons_append, List.nil_append, Ev_seq, Ev_region, Ev_skip, Ev_exit, Ev_ret, Ev_block, Ev_cond, Ev_ghost, Ev_draw_calm, GoOn_cmp, GoOn_nil, GoOn_thn, GoOn_thn_e, GoOn_thn_r, GoOn_blk, GoOn_blk_e, GoOn_blk_r, onN_n, onN_e, onN_r, Round_n, Round_e, Round_r, EvC_t, EvC_f, EvW_t, EvW_f, EvR_some, EvN_some, EvO_cons, EvO_nil, wanted, exec, put, passed, opd,
    List.length_cons, List.length_nil, Nat.zero_add, Nat.reduceAdd, List.replicate_succ, List.replicate_zero, List.set_cons_zero, List.set_cons_succ, List.getD_cons_zero, List.getD_cons_succ, Option.map_some, Option.map_none, List.map_cons, List.map_nil,
    bin_add, bin_sub, bin_mul, bin_eql, bin_neq, bin_lss, bin_leq, bin_gtr, bin_geq, bin_quo_nat, bin_rem_nat, bin_or_hi, bin_shr32, bin_shl32, lenV_slice, lenV_ref, ne_eq, not_false_eq_true, beq_true, beq_false, Bool.not_true, Bool.not_false, wrap_i64, wrap_u64, dec_t, dec_f, ite_t, ite_f, ibeq_t, ibeq_f, ibne_t, ibne_f, index_slice, index_ref, slice_slice_hi, slice_ref_hi, Int.natCast_add, Int.cast_ofNat_Int, Int.add_sub_cancel, Int.toNat_natCast, Int.toNat_natCast_add_one, Int.reduceToNat, Nat.mul_one, load_dg, shareL_dg, adoptV, if_true, if_false, ite_true, ite_false, Bool.true_eq, Bool.false_eq_true, beq_self_eq_true, reduceCtorEq, reduceIte, Nat.reduceMul, Nat.reduceSub, Nat.reduceLT, Nat.reduceLeDiff, Nat.reduceEqDiff, callV, takeArgs, takeV, lendArgs, lendV, lendVs, List.headD_cons, List.headD_nil, List.tail_cons, List.tail_nil, List.contains_cons, List.contains_nil, m_al, m_sl, m_ol, m_ll, m_la, m_ls, m_lo, Bool.or_false, Bool.or_true, Bool.false_or, Bool.true_or, idsL, ids, madeV, shareV, shareVs, adoptV, adoptVs, ownOnly, ownOnlyL, Bool.true_and, Bool.and_true, Bool.and_false, Bool.false_and, List.isEmpty_nil, List.isEmpty_cons, giveV, giveVs, Bool.not_false, Bool.not_true, reduceCtorEq, Bool.false_eq_true, if_false, if_true, comps, zeros, fill, layAt, List.zip_cons_cons, List.zip_nil_left, List.zip_nil_right, List.all_cons, List.all_nil, storable, List.append_nil, List.cons_append, List.nil_append, true_and, and_self, Nat.le_refl, Bool.and_self, giveVs, giveV, adoptV, madeV, Option.map_some, List.map_cons, List.map_nil, loadV_addr, Nat.add_zero, storeV, setCells, layAt, cellsAt, borrow, borrowL, cut, theRow, comps, giveVs, giveV, List.getElem?_cons_zero, List.getElem?_cons_succ, List.drop_zero, List.take_succ_cons, List.take_zero, List.take_nil, List.all_cons, List.all_nil, storable, scalarD, Bool.and_self, Bool.false_eq_true, if_false, if_true, and_true, true_and, and_self, Nat.le_refl, false_implies, forall_const, forall_false, imp_false, not_false_eq_true, adoptVs, adoptV, isU]
  refine Ev_loop (fun m st => ∃ i v : Nat, i + m = c ∧ st = ⟨[.slice false 1 l.length (di l), .addr 0 [] 0 0, .addr 1 [] 0 0, .int .i64 i, .undef, .undef, .undef, .undef, .undef], [], [some ⟨[.slice true 1 0 []], false, 0, 0⟩, some ⟨[.slice true 1 i (gblksO (spS l i))], false, 0, v⟩], 0⟩) c ⟨0, 1, by omega, ?_⟩ ?_
  · simp only [norm, keepLive, compact, List.range_zero, List.range_succ, List.nil_append, List.cons_append, List.append_nil, List.contains_cons, List.contains_nil, Bool.or_false, Bool.or_true, Bool.false_or, Bool.true_or, Nat.reduceBEq, beq_self_eq_true, idsL, ids, addId, List.filter_cons, List.filter_nil, decide_true, decide_false, List.map_cons, List.map_nil, maskD, within, withinL, mapD, mapL, subRows, getRow, List.idxOf_cons, List.idxOf_nil, cond_true, cond_false, Bool.and_true, Bool.true_and, if_true, if_false, Bool.false_eq_true, List.length_cons, List.length_nil, Nat.zero_add, Nat.reduceAdd, Nat.reduceLT, List.getD_cons_zero, List.getD_cons_succ, List.set_cons_zero, List.set_cons_succ, reduceIte, reduceCtorEq]; rfl
  rintro m st ⟨i, v, hi, rfl⟩
  cases m with
  | zero =>
    have ei : i = c := by omega
    subst ei
    have hgl := gblksO_length (spS l i)
    rw [spS_length] at hgl
    simp -implicitDefEqProofs (disch := first | omega | (apply calm_by; decide)) only [List.cons_append, List.nil_append, Ev_seq, Ev_region, Ev_skip, Ev_exit, Ev_ret, Ev_block, Ev_cond, Ev_ghost, Ev_draw_calm, GoOn_cmp, GoOn_nil, GoOn_thn, GoOn_thn_e, GoOn_thn_r, GoOn_blk, GoOn_blk_e, GoOn_blk_r, onN_n, onN_e, onN_r, Round_n, Round_e, Round_r, EvC_t, EvC_f, EvW_t, EvW_f, EvR_some, EvN_some, EvO_cons, EvO_nil, wanted, exec, put, passed, opd,
    List.length_cons, List.length_nil, Nat.zero_add, Nat.reduceAdd, List.replicate_succ, List.replicate_zero, List.set_cons_zero, List.set_cons_succ, List.getD_cons_zero, List.getD_cons_succ, Option.map_some, Option.map_none, List.map_cons, List.map_nil,
    bin_add, bin_sub, bin_mul, bin_eql, bin_neq, bin_lss, bin_leq, bin_gtr, bin_geq, bin_quo_nat, bin_rem_nat, bin_or_hi, bin_shr32, bin_shl32, lenV_slice, lenV_ref, ne_eq, not_false_eq_true, beq_true, beq_false, Bool.not_true, Bool.not_false, wrap_i64, wrap_u64, dec_t, dec_f, ite_t, ite_f, ibeq_t, ibeq_f, ibne_t, ibne_f, index_slice, index_ref, slice_slice_hi, slice_ref_hi, Int.natCast_add, Int.cast_ofNat_Int, Int.add_sub_cancel, Int.toNat_natCast, Int.toNat_natCast_add_one, Int.reduceToNat, Nat.mul_one, load_dg, shareL_dg, adoptV, if_true, if_false, ite_true, ite_false, Bool.true_eq, Bool.false_eq_true, beq_self_eq_true, reduceCtorEq, reduceIte, Nat.reduceMul, Nat.reduceSub, Nat.reduceLT, Nat.reduceLeDiff, Nat.reduceEqDiff, callV, takeArgs, takeV, lendArgs, lendV, lendVs, List.headD_cons, List.headD_nil, List.tail_cons, List.tail_nil, List.contains_cons, List.contains_nil, m_al, m_sl, m_ol, m_ll, m_la, m_ls, m_lo, Bool.or_false, Bool.or_true, Bool.false_or, Bool.true_or, idsL, ids, madeV, shareV, shareVs, adoptV, adoptVs, ownOnly, ownOnlyL, Bool.true_and, Bool.and_true, Bool.and_false, Bool.false_and, List.isEmpty_nil, List.isEmpty_cons, giveV, giveVs, Bool.not_false, Bool.not_true, reduceCtorEq, Bool.false_eq_true, if_false, if_true, loadV_addr, Nat.add_zero, storeV, setCells, layAt, cellsAt, borrow, borrowL, cut, theRow, comps, giveVs, giveV, List.getElem?_cons_zero, List.getElem?_cons_succ, List.drop_zero, List.take_succ_cons, List.take_zero, List.take_nil, List.all_cons, List.all_nil, storable, scalarD, Bool.and_self, Bool.false_eq_true, if_false, if_true, and_true, true_and, and_self, Nat.le_refl, false_implies, forall_const, forall_false, imp_false, not_false_eq_true, adoptVs, adoptV, dg_length, take_dg, List.take_length, ends_n, ends_r, results, resVs, resV, giveV, giveVs, shareV, theRow, List.getElem?_cons_zero, List.getElem?_cons_succ, Option.map_some, List.take_zero, List.take_nil, List.take_succ_cons, appendV, appendSrc, giveV, giveVs, theRow, cellsAt, List.getElem?_cons_zero, List.getElem?_cons_succ, List.drop_zero, List.take_succ_cons, List.take_zero, List.take_nil, Nat.zero_sub, Nat.sub_zero, Bool.false_eq_true, if_false, if_true, and_true, true_and, and_self, Nat.le_refl, List.length_cons, List.length_nil, List.cons_append, List.nil_append, List.append_nil, shareL_di, t0, hrem, takeCells, resVs, resV]
    rw [List.take_of_length_le (by omega)]
  | succ m =>
    have tn := at_ok h.1 l (1 + i) hl (by omega)
    have hle := atN_le l (1 + i)
    have hs := spS_succ l i
    have hbl := spB_length (atN l (1 + i)) (atN l (1 + i) % 3)
    generalize hbs : spS l i = bs at *
    simp only [Int.natCast_add, Int.cast_ofNat_Int] at tn
    simp -implicitDefEqProofs (disch := first | omega | (apply calm_by; decide)) only [List.cons_append, List.nil_append, Ev_seq, Ev_region, Ev_skip, Ev_exit, Ev_ret, Ev_block, Ev_cond, Ev_ghost, Ev_draw_calm, GoOn_cmp, GoOn_nil, GoOn_thn, GoOn_thn_e, GoOn_thn_r, GoOn_blk, GoOn_blk_e, GoOn_blk_r, onN_n, onN_e, onN_r, Round_n, Round_e, Round_r, EvC_t, EvC_f, EvW_t, EvW_f, EvR_some, EvN_some, EvO_cons, EvO_nil, wanted, exec, put, passed, opd,
    List.length_cons, List.length_nil, Nat.zero_add, Nat.reduceAdd, List.replicate_succ, List.replicate_zero, List.set_cons_zero, List.set_cons_succ, List.getD_cons_zero, List.getD_cons_succ, Option.map_some, Option.map_none, List.map_cons, List.map_nil,
    bin_add, bin_sub, bin_mul, bin_eql, bin_neq, bin_lss, bin_leq, bin_gtr, bin_geq, bin_quo_nat, bin_rem_nat, bin_or_hi, bin_shr32, bin_shl32, lenV_slice, lenV_ref, ne_eq, not_false_eq_true, beq_true, beq_false, Bool.not_true, Bool.not_false, wrap_i64, wrap_u64, dec_t, dec_f, ite_t, ite_f, ibeq_t, ibeq_f, ibne_t, ibne_f, index_slice, index_ref, slice_slice_hi, slice_ref_hi, Int.natCast_add, Int.cast_ofNat_Int, Int.add_sub_cancel, Int.toNat_natCast, Int.toNat_natCast_add_one, Int.reduceToNat, Nat.mul_one, load_dg, shareL_dg, adoptV, if_true, if_false, ite_true, ite_false, Bool.true_eq, Bool.false_eq_true, beq_self_eq_true, reduceCtorEq, reduceIte, Nat.reduceMul, Nat.reduceSub, Nat.reduceLT, Nat.reduceLeDiff, Nat.reduceEqDiff, callV, takeArgs, takeV, lendArgs, lendV, lendVs, List.headD_cons, List.headD_nil, List.tail_cons, List.tail_nil, List.contains_cons, List.contains_nil, m_al, m_sl, m_ol, m_ll, m_la, m_ls, m_lo, Bool.or_false, Bool.or_true, Bool.false_or, Bool.true_or, idsL, ids, madeV, shareV, shareVs, adoptV, adoptVs, ownOnly, ownOnlyL, Bool.true_and, Bool.and_true, Bool.and_false, Bool.false_and, List.isEmpty_nil, List.isEmpty_cons, giveV, giveVs, Bool.not_false, Bool.not_true, reduceCtorEq, Bool.false_eq_true, if_false, if_true, comps, zeros, fill, layAt, List.zip_cons_cons, List.zip_nil_left, List.zip_nil_right, List.all_cons, List.all_nil, storable, List.append_nil, List.cons_append, List.nil_append, true_and, and_self, Nat.le_refl, Bool.and_self, giveVs, giveV, adoptV, madeV, Option.map_some, List.map_cons, List.map_nil, loadV_addr, Nat.add_zero, storeV, setCells, layAt, cellsAt, borrow, borrowL, cut, theRow, comps, giveVs, giveV, List.getElem?_cons_zero, List.getElem?_cons_succ, List.drop_zero, List.take_succ_cons, List.take_zero, List.take_nil, List.all_cons, List.all_nil, storable, scalarD, Bool.and_self, Bool.false_eq_true, if_false, if_true, and_true, true_and, and_self, Nat.le_refl, false_implies, forall_const, forall_false, imp_false, not_false_eq_true, adoptVs, adoptV, appendV, appendSrc, giveV, giveVs, theRow, cellsAt, List.getElem?_cons_zero, List.getElem?_cons_succ, List.drop_zero, List.take_succ_cons, List.take_zero, List.take_nil, Nat.zero_sub, Nat.sub_zero, Bool.false_eq_true, if_false, if_true, and_true, true_and, and_self, Nat.le_refl, List.length_cons, List.length_nil, List.cons_append, List.nil_append, List.append_nil, isU, shareL_di, t0, hrem, tn]
    refine space_inner h q l i (atN l (1 + i)) v 1 bs _ (by omega) ?_ ?_
    · simp only [norm, keepLive, compact, List.range_zero, List.range_succ, List.nil_append, List.cons_append, List.append_nil, List.contains_cons, List.contains_nil, Bool.or_false, Bool.or_true, Bool.false_or, Bool.true_or, Nat.reduceBEq, beq_self_eq_true, idsL, ids, addId, List.filter_cons, List.filter_nil, decide_true, decide_false, List.map_cons, List.map_nil, maskD, within, withinL, mapD, mapL, subRows, getRow, List.idxOf_cons, List.idxOf_nil, cond_true, cond_false, Bool.and_true, Bool.true_and, if_true, if_false, Bool.false_eq_true, List.length_cons, List.length_nil, Nat.zero_add, Nat.reduceAdd, Nat.reduceLT, List.getD_cons_zero, List.getD_cons_succ, List.set_cons_zero, List.set_cons_succ, reduceIte, reduceCtorEq]; rfl
    intro v' ts
    have hbsl := spS_length l i
    have hroom : room (i + 1) 24 = true := room_t _ _ (by omega)
    have hfl := frsO_length (spB (atN l (1 + i)) (atN l (1 + i) % 3))
    rw [hbl] at hfl
    have hgl := gblksO_length bs
    rw [hbs] at hbsl
    rw [hbsl] at hgl
    have hB : gblksO bs ++ [.slice true 3 (atN l (1 + i) % 3) (frsO (spB (atN l (1 + i)) (atN l (1 + i) % 3)))] = gblksO (spS l (i + 1)) := by rw [hs, gblksO_append]; simp only [gblksO, gblkO, List.map_cons, List.map_nil, hbl]
    have hgl2 := gblksO_length (spS l (i + 1))
    rw [spS_length] at hgl2
    have htk : (gblksO (spS l (i + 1))).take (i + 1) = gblksO (spS l (i + 1)) := List.take_of_length_le (by omega)
    have hft : (frsO (spB (atN l (1 + i)) (atN l (1 + i) % 3))).take (atN l (1 + i) % 3 * 3) = frsO (spB (atN l (1 + i)) (atN l (1 + i) % 3)) := List.take_of_length_le (by omega)
    generalize spB (atN l (1 + i)) (atN l (1 + i) % 3) = fs at *
    generalize atN l (1 + i) % 3 = k at *
    simp only [st63]
    simp -implicitDefEqProofs (maxSteps := 4000000) (disch := first | omega | (apply calm_by; decide)) only [List.cons_append, List.nil_append, Ev_seq, Ev_region, Ev_skip, Ev_exit, Ev_ret, Ev_block, Ev_cond, Ev_ghost, Ev_draw_calm, GoOn_cmp, GoOn_nil, GoOn_thn, GoOn_thn_e, GoOn_thn_r, GoOn_blk, GoOn_blk_e, GoOn_blk_r, onN_n, onN_e, onN_r, Round_n, Round_e, Round_r, EvC_t, EvC_f, EvW_t, EvW_f, EvR_some, EvN_some, EvO_cons, EvO_nil, wanted, exec, put, passed, opd,
    List.length_cons, List.length_nil, Nat.zero_add, Nat.reduceAdd, List.replicate_succ, List.replicate_zero, List.set_cons_zero, List.set_cons_succ, List.getD_cons_zero, List.getD_cons_succ, Option.map_some, Option.map_none, List.map_cons, List.map_nil,
    bin_add, bin_sub, bin_mul, bin_eql, bin_neq, bin_lss, bin_leq, bin_gtr, bin_geq, bin_quo_nat, bin_rem_nat, bin_or_hi, bin_shr32, bin_shl32, lenV_slice, lenV_ref, ne_eq, not_false_eq_true, beq_true, beq_false, Bool.not_true, Bool.not_false, wrap_i64, wrap_u64, dec_t, dec_f, ite_t, ite_f, ibeq_t, ibeq_f, ibne_t, ibne_f, index_slice, index_ref, slice_slice_hi, slice_ref_hi, Int.natCast_add, Int.cast_ofNat_Int, Int.add_sub_cancel, Int.toNat_natCast, Int.toNat_natCast_add_one, Int.reduceToNat, Nat.mul_one, load_dg, shareL_dg, adoptV, if_true, if_false, ite_true, ite_false, Bool.true_eq, Bool.false_eq_true, beq_self_eq_true, reduceCtorEq, reduceIte, Nat.reduceMul, Nat.reduceSub, Nat.reduceLT, Nat.reduceLeDiff, Nat.reduceEqDiff, callV, takeArgs, takeV, lendArgs, lendV, lendVs, List.headD_cons, List.headD_nil, List.tail_cons, List.tail_nil, List.contains_cons, List.contains_nil, m_al, m_sl, m_ol, m_ll, m_la, m_ls, m_lo, Bool.or_false, Bool.or_true, Bool.false_or, Bool.true_or, idsL, ids, madeV, shareV, shareVs, adoptV, adoptVs, ownOnly, ownOnlyL, Bool.true_and, Bool.and_true, Bool.and_false, Bool.false_and, List.isEmpty_nil, List.isEmpty_cons, giveV, giveVs, Bool.not_false, Bool.not_true, reduceCtorEq, Bool.false_eq_true, if_false, if_true, comps, zeros, fill, layAt, List.zip_cons_cons, List.zip_nil_left, List.zip_nil_right, List.all_cons, List.all_nil, storable, List.append_nil, List.cons_append, List.nil_append, true_and, and_self, Nat.le_refl, Bool.and_self, giveVs, giveV, adoptV, madeV, Option.map_some, List.map_cons, List.map_nil, loadV_addr, Nat.add_zero, storeV, setCells, layAt, cellsAt, borrow, borrowL, cut, theRow, comps, giveVs, giveV, List.getElem?_cons_zero, List.getElem?_cons_succ, List.drop_zero, List.take_succ_cons, List.take_zero, List.take_nil, List.all_cons, List.all_nil, storable, scalarD, Bool.and_self, Bool.false_eq_true, if_false, if_true, and_true, true_and, and_self, Nat.le_refl, false_implies, forall_const, forall_false, imp_false, not_false_eq_true, adoptVs, adoptV, appendV, appendSrc, giveV, giveVs, theRow, cellsAt, List.getElem?_cons_zero, List.getElem?_cons_succ, List.drop_zero, List.take_succ_cons, List.take_zero, List.take_nil, Nat.zero_sub, Nat.sub_zero, Bool.false_eq_true, if_false, if_true, and_true, true_and, and_self, Nat.le_refl, List.length_cons, List.length_nil, List.cons_append, List.nil_append, List.append_nil, nav, putNav, setNav, takeCells, List.append_nil, List.drop_succ_cons, isU, hfl, hft, hgl, hgl2, hB, htk, hroom, norm, keepLive, compact, List.range_zero, List.range_succ, List.nil_append, List.cons_append, List.append_nil, List.contains_cons, List.contains_nil, Bool.or_false, Bool.or_true, Bool.false_or, Bool.true_or, Nat.reduceBEq, beq_self_eq_true, idsL, ids, addId, List.filter_cons, List.filter_nil, decide_true, decide_false, List.map_cons, List.map_nil, maskD, within, withinL, mapD, mapL, subRows, getRow, List.idxOf_cons, List.idxOf_nil, cond_true, cond_false, Bool.and_true, Bool.true_and, if_true, if_false, Bool.false_eq_true, List.length_cons, List.length_nil, Nat.zero_add, Nat.reduceAdd, Nat.reduceLT, List.getD_cons_zero, List.getD_cons_succ, List.set_cons_zero, List.set_cons_succ, reduceIte, reduceCtorEq]
    exact ⟨m, by omega, i + 1, _, by omega, rfl⟩
end
end Av
namespace Av
open Go
set_option linter.unusedSimpArgs false
set_option linter.unusedVariables false
section
variable {T : Nat → Option Fun}
set_option maxHeartbeats 1000000 in
theorem gcontains_ok (h : Has1 T) (bs : List (List Frac3)) (w : List Int) (hk : Good T bs) (hl : bs.length ≤ 63) (hw : InW (lens bs) w) : callW T 39 [gsp bs, .slice false 1 w.length (di w)] [] = some (.bool true, []) := by
  refine callW_ev (h 39 (.code F.f39) rfl) rfl ?_
  obtain ⟨hwl, hin⟩ := hw
  rw [lens_length] at hwl
  have hll := lens_length bs
  have tv := gvalid_ok h bs hk (by omega)
  simp only [F.f39, gsp, adoptVs, adoptV, List.cons_append, List.nil_append] at tv ⊢
  simp -implicitDefEqProofs (disch := first | omega | (apply calm_by; decide)) only [List.cons_append, List.nil_append, Ev_seq, Ev_region, Ev_skip, Ev_exit, Ev_ret, Ev_block, Ev_cond, Ev_ghost, Ev_draw_calm, GoOn_cmp, GoOn_nil, GoOn_thn, GoOn_thn_e, GoOn_thn_r, GoOn_blk, GoOn_blk_e, GoOn_blk_r, onN_n, onN_e, onN_r, Round_n, Round_e, Round_r, EvC_t, EvC_f, EvW_t, EvW_f, EvR_some, EvN_some, EvO_cons, EvO_nil, wanted, exec, put, passed, opd,
    List.length_cons, List.length_nil, Nat.zero_add, Nat.reduceAdd, List.replicate_succ, List.replicate_zero, List.set_cons_zero, List.set_cons_succ, List.getD_cons_zero, List.getD_cons_succ, Option.map_some, Option.map_none, List.map_cons, List.map_nil,
    bin_add, bin_sub, bin_mul, bin_eql, bin_neq, bin_lss, bin_leq, bin_gtr, bin_geq, bin_quo_nat, bin_rem_nat, bin_or_hi, bin_shr32, bin_shl32, lenV_slice, lenV_ref, ne_eq, not_false_eq_true, beq_true, beq_false, Bool.not_true, Bool.not_false, wrap_i64, wrap_u64, dec_t, dec_f, ite_t, ite_f, ibeq_t, ibeq_f, ibne_t, ibne_f, index_slice, index_ref, slice_slice_hi, slice_ref_hi, Int.natCast_add, Int.cast_ofNat_Int, Int.add_sub_cancel, Int.toNat_natCast, Int.toNat_natCast_add_one, Int.reduceToNat, Nat.mul_one, load_dg, shareL_dg, adoptV, if_true, if_false, ite_true, ite_false, Bool.true_eq, Bool.false_eq_true, beq_self_eq_true, reduceCtorEq, reduceIte, Nat.reduceMul, Nat.reduceSub, Nat.reduceLT, Nat.reduceLeDiff, Nat.reduceEqDiff, callV, takeArgs, takeV, lendArgs, lendV, lendVs, List.headD_cons, List.headD_nil, List.tail_cons, List.tail_nil, List.contains_cons, List.contains_nil, m_al, m_sl, m_ol, m_ll, m_la, m_ls, m_lo, Bool.or_false, Bool.or_true, Bool.false_or, Bool.true_or, idsL, ids, madeV, shareV, shareVs, adoptV, adoptVs, ownOnly, ownOnlyL, Bool.true_and, Bool.and_true, Bool.and_false, Bool.false_and, List.isEmpty_nil, List.isEmpty_cons, giveV, giveVs, Bool.not_false, Bool.not_true, reduceCtorEq, Bool.false_eq_true, if_false, if_true, comps, zeros, fill, layAt, List.zip_cons_cons, List.zip_nil_left, List.zip_nil_right, List.all_cons, List.all_nil, storable, List.append_nil, List.cons_append, List.nil_append, true_and, and_self, Nat.le_refl, Bool.and_self, giveVs, giveV, adoptV, madeV, Option.map_some, List.map_cons, List.map_nil, loadV_addr, Nat.add_zero, storeV, setCells, layAt, cellsAt, borrow, borrowL, cut, theRow, comps, giveVs, giveV, List.getElem?_cons_zero, List.getElem?_cons_succ, List.drop_zero, List.take_succ_cons, List.take_zero, List.take_nil, List.all_cons, List.all_nil, storable, scalarD, Bool.and_self, Bool.false_eq_true, if_false, if_true, and_true, true_and, and_self, Nat.le_refl, false_implies, forall_const, forall_false, imp_false, not_false_eq_true, adoptVs, adoptV, shareL_gblks, shareV, tv, lendVs, lend_slice0, un]
  refine Ev_loop (fun n st => ∃ i : Nat, i + n = w.length ∧ st = ⟨[.undef, .undef, .addr 0 [] 0 0, .undef, .undef, .undef, .slice false 1 w.length (di w), .int .i64 w.length, .int .i64 i], [], [some ⟨[.slice false 1 bs.length (gblks bs)], false, 0, 0⟩], 0⟩) w.length ⟨0, by omega, ?_⟩ ?_
  · simp only [norm, keepLive, compact, List.range_zero, List.range_succ, List.nil_append, List.cons_append, List.append_nil, List.contains_cons, List.contains_nil, Bool.or_false, Bool.or_true, Bool.false_or, Bool.true_or, Nat.reduceBEq, beq_self_eq_true, idsL, ids, addId, List.filter_cons, List.filter_nil, decide_true, decide_false, List.map_cons, List.map_nil, maskD, within, withinL, mapD, mapL, subRows, getRow, List.idxOf_cons, List.idxOf_nil, cond_true, cond_false, Bool.and_true, Bool.true_and, if_true, if_false, Bool.false_eq_true, List.length_cons, List.length_nil, Nat.zero_add, Nat.reduceAdd, Nat.reduceLT, List.getD_cons_zero, List.getD_cons_succ, List.set_cons_zero, List.set_cons_succ, reduceIte, reduceCtorEq]; rfl
  rintro n st ⟨i, hi, rfl⟩
  cases n with
  | zero => simp -implicitDefEqProofs (disch := first | omega | (apply calm_by; decide)) only [List.cons_append, List.nil_append, Ev_seq, Ev_region, Ev_skip, Ev_exit, Ev_ret, Ev_block, Ev_cond, Ev_ghost, Ev_draw_calm, GoOn_cmp, GoOn_nil, GoOn_thn, GoOn_thn_e, GoOn_thn_r, GoOn_blk, GoOn_blk_e, GoOn_blk_r, onN_n, onN_e, onN_r, Round_n, Round_e, Round_r, EvC_t, EvC_f, EvW_t, EvW_f, EvR_some, EvN_some, EvO_cons, EvO_nil, wanted, exec, put, passed, opd,
    List.length_cons, List.length_nil, Nat.zero_add, Nat.reduceAdd, List.replicate_succ, List.replicate_zero, List.set_cons_zero, List.set_cons_succ, List.getD_cons_zero, List.getD_cons_succ, Option.map_some, Option.map_none, List.map_cons, List.map_nil,
    bin_add, bin_sub, bin_mul, bin_eql, bin_neq, bin_lss, bin_leq, bin_gtr, bin_geq, bin_quo_nat, bin_rem_nat, bin_or_hi, bin_shr32, bin_shl32, lenV_slice, lenV_ref, ne_eq, not_false_eq_true, beq_true, beq_false, Bool.not_true, Bool.not_false, wrap_i64, wrap_u64, dec_t, dec_f, ite_t, ite_f, ibeq_t, ibeq_f, ibne_t, ibne_f, index_slice, index_ref, slice_slice_hi, slice_ref_hi, Int.natCast_add, Int.cast_ofNat_Int, Int.add_sub_cancel, Int.toNat_natCast, Int.toNat_natCast_add_one, Int.reduceToNat, Nat.mul_one, load_dg, shareL_dg, adoptV, if_true, if_false, ite_true, ite_false, Bool.true_eq, Bool.false_eq_true, beq_self_eq_true, reduceCtorEq, reduceIte, Nat.reduceMul, Nat.reduceSub, Nat.reduceLT, Nat.reduceLeDiff, Nat.reduceEqDiff, callV, takeArgs, takeV, lendArgs, lendV, lendVs, List.headD_cons, List.headD_nil, List.tail_cons, List.tail_nil, List.contains_cons, List.contains_nil, m_al, m_sl, m_ol, m_ll, m_la, m_ls, m_lo, Bool.or_false, Bool.or_true, Bool.false_or, Bool.true_or, idsL, ids, madeV, shareV, shareVs, adoptV, adoptVs, ownOnly, ownOnlyL, Bool.true_and, Bool.and_true, Bool.and_false, Bool.false_and, List.isEmpty_nil, List.isEmpty_cons, giveV, giveVs, Bool.not_false, Bool.not_true, reduceCtorEq, Bool.false_eq_true, if_false, if_true, dg_length, take_dg, List.take_length, ends_n, ends_r, results, resVs, resV, giveV, giveVs, shareV, theRow, List.getElem?_cons_zero, List.getElem?_cons_succ, Option.map_some, List.take_zero, List.take_nil, List.take_succ_cons]
  | succ n =>
    have ld := fun rows => load_di rows w i (by omega)
    have ld2 := fun rows => load_gblk1 rows bs i (by omega)
    obtain ⟨h1, h2⟩ := hin i (by omega)
    rw [lens_getD] at h2
    generalize bs.getD i [] = l at *
    generalize w.getD i 0 = c at *
    have hkk : gblk l = .slice false 3 l.length (frs l) := rfl
    rw [hkk] at ld2
    simp -implicitDefEqProofs (disch := first | omega | (apply calm_by; decide)) only [List.cons_append, List.nil_append, Ev_seq, Ev_region, Ev_skip, Ev_exit, Ev_ret, Ev_block, Ev_cond, Ev_ghost, Ev_draw_calm, GoOn_cmp, GoOn_nil, GoOn_thn, GoOn_thn_e, GoOn_thn_r, GoOn_blk, GoOn_blk_e, GoOn_blk_r, onN_n, onN_e, onN_r, Round_n, Round_e, Round_r, EvC_t, EvC_f, EvW_t, EvW_f, EvR_some, EvN_some, EvO_cons, EvO_nil, wanted, exec, put, passed, opd,
    List.length_cons, List.length_nil, Nat.zero_add, Nat.reduceAdd, List.replicate_succ, List.replicate_zero, List.set_cons_zero, List.set_cons_succ, List.getD_cons_zero, List.getD_cons_succ, Option.map_some, Option.map_none, List.map_cons, List.map_nil,
    bin_add, bin_sub, bin_mul, bin_eql, bin_neq, bin_lss, bin_leq, bin_gtr, bin_geq, bin_quo_nat, bin_rem_nat, bin_or_hi, bin_shr32, bin_shl32, lenV_slice, lenV_ref, ne_eq, not_false_eq_true, beq_true, beq_false, Bool.not_true, Bool.not_false, wrap_i64, wrap_u64, dec_t, dec_f, ite_t, ite_f, ibeq_t, ibeq_f, ibne_t, ibne_f, index_slice, index_ref, slice_slice_hi, slice_ref_hi, Int.natCast_add, Int.cast_ofNat_Int, Int.add_sub_cancel, Int.toNat_natCast, Int.toNat_natCast_add_one, Int.reduceToNat, Nat.mul_one, load_dg, shareL_dg, adoptV, if_true, if_false, ite_true, ite_false, Bool.true_eq, Bool.false_eq_true, beq_self_eq_true, reduceCtorEq, reduceIte, Nat.reduceMul, Nat.reduceSub, Nat.reduceLT, Nat.reduceLeDiff, Nat.reduceEqDiff, callV, takeArgs, takeV, lendArgs, lendV, lendVs, List.headD_cons, List.headD_nil, List.tail_cons, List.tail_nil, List.contains_cons, List.contains_nil, m_al, m_sl, m_ol, m_ll, m_la, m_ls, m_lo, Bool.or_false, Bool.or_true, Bool.false_or, Bool.true_or, idsL, ids, madeV, shareV, shareVs, adoptV, adoptVs, ownOnly, ownOnlyL, Bool.true_and, Bool.and_true, Bool.and_false, Bool.false_and, List.isEmpty_nil, List.isEmpty_cons, giveV, giveVs, Bool.not_false, Bool.not_true, reduceCtorEq, Bool.false_eq_true, if_false, if_true, comps, zeros, fill, layAt, List.zip_cons_cons, List.zip_nil_left, List.zip_nil_right, List.all_cons, List.all_nil, storable, List.append_nil, List.cons_append, List.nil_append, true_and, and_self, Nat.le_refl, Bool.and_self, giveVs, giveV, adoptV, madeV, Option.map_some, List.map_cons, List.map_nil, loadV_addr, Nat.add_zero, storeV, setCells, layAt, cellsAt, borrow, borrowL, cut, theRow, comps, giveVs, giveV, List.getElem?_cons_zero, List.getElem?_cons_succ, List.drop_zero, List.take_succ_cons, List.take_zero, List.take_nil, List.all_cons, List.all_nil, storable, scalarD, Bool.and_self, Bool.false_eq_true, if_false, if_true, and_true, true_and, and_self, Nat.le_refl, false_implies, forall_const, forall_false, imp_false, not_false_eq_true, adoptVs, adoptV, norm, keepLive, compact, List.range_zero, List.range_succ, List.nil_append, List.cons_append, List.append_nil, List.contains_cons, List.contains_nil, Bool.or_false, Bool.or_true, Bool.false_or, Bool.true_or, Nat.reduceBEq, beq_self_eq_true, idsL, ids, addId, List.filter_cons, List.filter_nil, decide_true, decide_false, List.map_cons, List.map_nil, maskD, within, withinL, mapD, mapL, subRows, getRow, List.idxOf_cons, List.idxOf_nil, cond_true, cond_false, Bool.and_true, Bool.true_and, if_true, if_false, Bool.false_eq_true, List.length_cons, List.length_nil, Nat.zero_add, Nat.reduceAdd, Nat.reduceLT, List.getD_cons_zero, List.getD_cons_succ, List.set_cons_zero, List.set_cons_succ, reduceIte, reduceCtorEq, shareL_di, shareL_gblks, ld, ld2]
    exact ⟨n, by omega, i + 1, by omega, rfl⟩
set_option maxHeartbeats 2000000 in
theorem gindex_ok (h : Has1 T) (bs : List (List Frac3)) (w : List Int) (hk : Good T bs) (hl : bs.length ≤ 63) (hw : InW (lens bs) w) : callW T 38 [gsp bs, .slice false 1 w.length (di w)] [] = some (.tup [natO (digs (num (lens bs) w)), .bool true], []) := by
  refine callW_ev (h 38 (.code F.f38) rfl) rfl ?_
  have tc := gcontains_ok h bs w hk hl hw
  have hwl := hw.1
  have hll := lens_length bs
  simp only [F.f38, gsp, adoptVs, adoptV, List.cons_append, List.nil_append] at tc ⊢
  simp -implicitDefEqProofs (disch := first | omega | (apply calm_by; decide)) only [List.cons_append, List.nil_append, Ev_seq, Ev_region, Ev_skip, Ev_exit, Ev_ret, Ev_block, Ev_cond, Ev_ghost, Ev_draw_calm, GoOn_cmp, GoOn_nil, GoOn_thn, GoOn_thn_e, GoOn_thn_r, GoOn_blk, GoOn_blk_e, GoOn_blk_r, onN_n, onN_e, onN_r, Round_n, Round_e, Round_r, EvC_t, EvC_f, EvW_t, EvW_f, EvR_some, EvN_some, EvO_cons, EvO_nil, wanted, exec, put, passed, opd,
    List.length_cons, List.length_nil, Nat.zero_add, Nat.reduceAdd, List.replicate_succ, List.replicate_zero, List.set_cons_zero, List.set_cons_succ, List.getD_cons_zero, List.getD_cons_succ, Option.map_some, Option.map_none, List.map_cons, List.map_nil,
    bin_add, bin_sub, bin_mul, bin_eql, bin_neq, bin_lss, bin_leq, bin_gtr, bin_geq, bin_quo_nat, bin_rem_nat, bin_or_hi, bin_shr32, bin_shl32, lenV_slice, lenV_ref, ne_eq, not_false_eq_true, beq_true, beq_false, Bool.not_true, Bool.not_false, wrap_i64, wrap_u64, dec_t, dec_f, ite_t, ite_f, ibeq_t, ibeq_f, ibne_t, ibne_f, index_slice, index_ref, slice_slice_hi, slice_ref_hi, Int.natCast_add, Int.cast_ofNat_Int, Int.add_sub_cancel, Int.toNat_natCast, Int.toNat_natCast_add_one, Int.reduceToNat, Nat.mul_one, load_dg, shareL_dg, adoptV, if_true, if_false, ite_true, ite_false, Bool.true_eq, Bool.false_eq_true, beq_self_eq_true, reduceCtorEq, reduceIte, Nat.reduceMul, Nat.reduceSub, Nat.reduceLT, Nat.reduceLeDiff, Nat.reduceEqDiff, callV, takeArgs, takeV, lendArgs, lendV, lendVs, List.headD_cons, List.headD_nil, List.tail_cons, List.tail_nil, List.contains_cons, List.contains_nil, m_al, m_sl, m_ol, m_ll, m_la, m_ls, m_lo, Bool.or_false, Bool.or_true, Bool.false_or, Bool.true_or, idsL, ids, madeV, shareV, shareVs, adoptV, adoptVs, ownOnly, ownOnlyL, Bool.true_and, Bool.and_true, Bool.and_false, Bool.false_and, List.isEmpty_nil, List.isEmpty_cons, giveV, giveVs, Bool.not_false, Bool.not_true, reduceCtorEq, Bool.false_eq_true, if_false, if_true, comps, zeros, fill, layAt, List.zip_cons_cons, List.zip_nil_left, List.zip_nil_right, List.all_cons, List.all_nil, storable, List.append_nil, List.cons_append, List.nil_append, true_and, and_self, Nat.le_refl, Bool.and_self, giveVs, giveV, adoptV, madeV, Option.map_some, List.map_cons, List.map_nil, loadV_addr, Nat.add_zero, storeV, setCells, layAt, cellsAt, borrow, borrowL, cut, theRow, comps, giveVs, giveV, List.getElem?_cons_zero, List.getElem?_cons_succ, List.drop_zero, List.take_succ_cons, List.take_zero, List.take_nil, List.all_cons, List.all_nil, storable, scalarD, Bool.and_self, Bool.false_eq_true, if_false, if_true, and_true, true_and, and_self, Nat.le_refl, false_implies, forall_const, forall_false, imp_false, not_false_eq_true, adoptVs, adoptV, shareL_gblks, shareL_di, shareV, tc, lendVs, lend_slice0, un]
  refine Ev_loop (fun n st => ∃ (i : Nat) (A : List Nat), i + n = bs.length ∧ A = digs (num ((lens bs).take i) (w.take i)) ∧ ((A = [] ∧ st = ⟨[.undef, .slice false 1 w.length (di w), .undef, .undef, .undef, .slice true 1 0 [], .undef, .undef, .slice false 1 bs.length (gblks bs), .int .i64 bs.length, .int .i64 i], [], [], 0⟩) ∨
      st = ⟨[.undef, .slice false 1 w.length (di w), .undef, .undef, .undef, .ref 0 [] 0 0 A.length 1, .undef, .undef, .slice false 1 bs.length (gblks bs), .int .i64 bs.length, .int .i64 i], [], [some ⟨dg A, false, 0, 0⟩], 0⟩)) bs.length ⟨0, [], by omega, by rw [List.take_zero, num, digs_zero]; simp, .inl ⟨rfl, ?_⟩⟩ ?_
  · simp only [norm, keepLive, compact, List.range_zero, List.range_succ, List.nil_append, List.cons_append, List.append_nil, List.contains_cons, List.contains_nil, Bool.or_false, Bool.or_true, Bool.false_or, Bool.true_or, Nat.reduceBEq, beq_self_eq_true, idsL, ids, addId, List.filter_cons, List.filter_nil, decide_true, decide_false, List.map_cons, List.map_nil, maskD, within, withinL, mapD, mapL, subRows, getRow, List.idxOf_cons, List.idxOf_nil, cond_true, cond_false, Bool.and_true, Bool.true_and, if_true, if_false, Bool.false_eq_true, List.length_cons, List.length_nil, Nat.zero_add, Nat.reduceAdd, Nat.reduceLT, List.getD_cons_zero, List.getD_cons_succ, List.set_cons_zero, List.set_cons_succ, reduceIte, reduceCtorEq]; rfl
  rintro n st ⟨i, A, hi, hA, hst⟩
  cases n with
  | zero =>
    rw [List.take_of_length_le (by omega), List.take_of_length_le (by omega)] at hA
    rw [← hA]
    rcases hst with ⟨rfl, rfl⟩ | rfl
    · simp -implicitDefEqProofs (disch := first | omega | (apply calm_by; decide)) only [List.cons_append, List.nil_append, Ev_seq, Ev_region, Ev_skip, Ev_exit, Ev_ret, Ev_block, Ev_cond, Ev_ghost, Ev_draw_calm, GoOn_cmp, GoOn_nil, GoOn_thn, GoOn_thn_e, GoOn_thn_r, GoOn_blk, GoOn_blk_e, GoOn_blk_r, onN_n, onN_e, onN_r, Round_n, Round_e, Round_r, EvC_t, EvC_f, EvW_t, EvW_f, EvR_some, EvN_some, EvO_cons, EvO_nil, wanted, exec, put, passed, opd,
    List.length_cons, List.length_nil, Nat.zero_add, Nat.reduceAdd, List.replicate_succ, List.replicate_zero, List.set_cons_zero, List.set_cons_succ, List.getD_cons_zero, List.getD_cons_succ, Option.map_some, Option.map_none, List.map_cons, List.map_nil,
    bin_add, bin_sub, bin_mul, bin_eql, bin_neq, bin_lss, bin_leq, bin_gtr, bin_geq, bin_quo_nat, bin_rem_nat, bin_or_hi, bin_shr32, bin_shl32, lenV_slice, lenV_ref, ne_eq, not_false_eq_true, beq_true, beq_false, Bool.not_true, Bool.not_false, wrap_i64, wrap_u64, dec_t, dec_f, ite_t, ite_f, ibeq_t, ibeq_f, ibne_t, ibne_f, index_slice, index_ref, slice_slice_hi, slice_ref_hi, Int.natCast_add, Int.cast_ofNat_Int, Int.add_sub_cancel, Int.toNat_natCast, Int.toNat_natCast_add_one, Int.reduceToNat, Nat.mul_one, load_dg, shareL_dg, adoptV, if_true, if_false, ite_true, ite_false, Bool.true_eq, Bool.false_eq_true, beq_self_eq_true, reduceCtorEq, reduceIte, Nat.reduceMul, Nat.reduceSub, Nat.reduceLT, Nat.reduceLeDiff, Nat.reduceEqDiff, callV, takeArgs, takeV, lendArgs, lendV, lendVs, List.headD_cons, List.headD_nil, List.tail_cons, List.tail_nil, List.contains_cons, List.contains_nil, m_al, m_sl, m_ol, m_ll, m_la, m_ls, m_lo, Bool.or_false, Bool.or_true, Bool.false_or, Bool.true_or, idsL, ids, madeV, shareV, shareVs, adoptV, adoptVs, ownOnly, ownOnlyL, Bool.true_and, Bool.and_true, Bool.and_false, Bool.false_and, List.isEmpty_nil, List.isEmpty_cons, giveV, giveVs, Bool.not_false, Bool.not_true, reduceCtorEq, Bool.false_eq_true, if_false, if_true, dg_length, take_dg, List.take_length, ends_n, ends_r, results, resVs, resV, giveV, giveVs, shareV, theRow, List.getElem?_cons_zero, List.getElem?_cons_succ, Option.map_some, List.take_zero, List.take_nil, List.take_succ_cons, take_dg_self, natO, dg]
    · simp -implicitDefEqProofs (disch := first | omega | (apply calm_by; decide)) only [List.cons_append, List.nil_append, Ev_seq, Ev_region, Ev_skip, Ev_exit, Ev_ret, Ev_block, Ev_cond, Ev_ghost, Ev_draw_calm, GoOn_cmp, GoOn_nil, GoOn_thn, GoOn_thn_e, GoOn_thn_r, GoOn_blk, GoOn_blk_e, GoOn_blk_r, onN_n, onN_e, onN_r, Round_n, Round_e, Round_r, EvC_t, EvC_f, EvW_t, EvW_f, EvR_some, EvN_some, EvO_cons, EvO_nil, wanted, exec, put, passed, opd,
    List.length_cons, List.length_nil, Nat.zero_add, Nat.reduceAdd, List.replicate_succ, List.replicate_zero, List.set_cons_zero, List.set_cons_succ, List.getD_cons_zero, List.getD_cons_succ, Option.map_some, Option.map_none, List.map_cons, List.map_nil,
    bin_add, bin_sub, bin_mul, bin_eql, bin_neq, bin_lss, bin_leq, bin_gtr, bin_geq, bin_quo_nat, bin_rem_nat, bin_or_hi, bin_shr32, bin_shl32, lenV_slice, lenV_ref, ne_eq, not_false_eq_true, beq_true, beq_false, Bool.not_true, Bool.not_false, wrap_i64, wrap_u64, dec_t, dec_f, ite_t, ite_f, ibeq_t, ibeq_f, ibne_t, ibne_f, index_slice, index_ref, slice_slice_hi, slice_ref_hi, Int.natCast_add, Int.cast_ofNat_Int, Int.add_sub_cancel, Int.toNat_natCast, Int.toNat_natCast_add_one, Int.reduceToNat, Nat.mul_one, load_dg, shareL_dg, adoptV, if_true, if_false, ite_true, ite_false, Bool.true_eq, Bool.false_eq_true, beq_self_eq_true, reduceCtorEq, reduceIte, Nat.reduceMul, Nat.reduceSub, Nat.reduceLT, Nat.reduceLeDiff, Nat.reduceEqDiff, callV, takeArgs, takeV, lendArgs, lendV, lendVs, List.headD_cons, List.headD_nil, List.tail_cons, List.tail_nil, List.contains_cons, List.contains_nil, m_al, m_sl, m_ol, m_ll, m_la, m_ls, m_lo, Bool.or_false, Bool.or_true, Bool.false_or, Bool.true_or, idsL, ids, madeV, shareV, shareVs, adoptV, adoptVs, ownOnly, ownOnlyL, Bool.true_and, Bool.and_true, Bool.and_false, Bool.false_and, List.isEmpty_nil, List.isEmpty_cons, giveV, giveVs, Bool.not_false, Bool.not_true, reduceCtorEq, Bool.false_eq_true, if_false, if_true, dg_length, take_dg, List.take_length, ends_n, ends_r, results, resVs, resV, giveV, giveVs, shareV, theRow, List.getElem?_cons_zero, List.getElem?_cons_succ, Option.map_some, List.take_zero, List.take_nil, List.take_succ_cons, take_dg_self, natO]
  | succ n =>
    have hgb := hk.get (i := i) (by omega)
    have hki := hgb.len
    have ld := fun rows => load_gblk rows bs i (by omega)
    have ld2 := fun rows => load_di rows w i (by omega)
    have hc := num_take (lens bs) w i (by omega) hwl
    rw [lens_getD] at hc
    have hlt := Nat.lt_trans (num_lt (hw.take i)) (cnt_lt (hk.small.take i) (by rw [List.length_take]; omega))
    have hdl := digN_le (hw.2 i (by omega)).2
    rw [lens_getD] at hdl
    have lA : A.length ≤ 5 := by rw [hA]; exact digs_length_le hlt
    have dA : Dig A := by rw [hA]; exact dig_digs _
    have vA : val A = num ((lens bs).take i) (w.take i) := by rw [hA, val_digs]
    generalize num ((lens bs).take i) (w.take i) = x at *
    generalize bs.getD i [] = l at *
    generalize w.getD i 0 = c at *
    have hkk : gblk l = .slice false 3 l.length (frs l) := rfl
    have tr := gradix_ok h l hki
    have td := gdigit_ok h l c hki
    rw [hkk] at ld tr td
    have ed : (if c < 0 then (l.length : Int) else c) = ((digN l.length c : Nat) : Int) := by unfold digN; split <;> omega
    rw [ed] at td
    have t2 := from_ok h (l.length + 1) (by omega)
    have l2 : (digs (l.length + 1)).length ≤ 1 := digs_length_le (by omega)
    have t3 := mul_ok h A (digs (l.length + 1)) dA (dig_digs _) (by omega) (by omega)
    rw [vA, val_digs] at t3
    have t4 := from_ok h (digN l.length c) (by omega)
    have l4 : (digs (digN l.length c)).length ≤ 1 := digs_length_le (by omega)
    have hx : x * (l.length + 1) < 4294967296 ^ 6 := by
      have : x * (l.length + 1) ≤ x * 5 := Nat.mul_le_mul_left _ (by omega)
      omega
    have l5 : (digs (x * (l.length + 1))).length ≤ 6 := digs_length_le hx
    have t5 := add_ok h (digs (x * (l.length + 1))) (digs (digN l.length c)) (dig_digs _) (dig_digs _) (by omega) (by omega)
    rw [val_digs, val_digs, ← hc] at t5
    simp only [Int.natCast_add, Int.cast_ofNat_Int] at t2
    have hdc : ((digN l.length c : Nat) : Int) ≤ 4 := by omega
    generalize digs (x * (l.length + 1)) = M at *
    generalize digs (digN l.length c) = E at *
    generalize digs (l.length + 1) = R at *
    generalize digN l.length c = d at *
    rcases hst with ⟨rfl, rfl⟩ | rfl
    · have t3' : callW T 14 [.slice false 1 0 [], .slice false 1 R.length (dg R)] [] = some (natO M, []) := t3
      simp -implicitDefEqProofs (disch := first | omega | (apply calm_by; decide)) only [List.cons_append, List.nil_append, Ev_seq, Ev_region, Ev_skip, Ev_exit, Ev_ret, Ev_block, Ev_cond, Ev_ghost, Ev_draw_calm, GoOn_cmp, GoOn_nil, GoOn_thn, GoOn_thn_e, GoOn_thn_r, GoOn_blk, GoOn_blk_e, GoOn_blk_r, onN_n, onN_e, onN_r, Round_n, Round_e, Round_r, EvC_t, EvC_f, EvW_t, EvW_f, EvR_some, EvN_some, EvO_cons, EvO_nil, wanted, exec, put, passed, opd,
    List.length_cons, List.length_nil, Nat.zero_add, Nat.reduceAdd, List.replicate_succ, List.replicate_zero, List.set_cons_zero, List.set_cons_succ, List.getD_cons_zero, List.getD_cons_succ, Option.map_some, Option.map_none, List.map_cons, List.map_nil,
    bin_add, bin_sub, bin_mul, bin_eql, bin_neq, bin_lss, bin_leq, bin_gtr, bin_geq, bin_quo_nat, bin_rem_nat, bin_or_hi, bin_shr32, bin_shl32, lenV_slice, lenV_ref, ne_eq, not_false_eq_true, beq_true, beq_false, Bool.not_true, Bool.not_false, wrap_i64, wrap_u64, dec_t, dec_f, ite_t, ite_f, ibeq_t, ibeq_f, ibne_t, ibne_f, index_slice, index_ref, slice_slice_hi, slice_ref_hi, Int.natCast_add, Int.cast_ofNat_Int, Int.add_sub_cancel, Int.toNat_natCast, Int.toNat_natCast_add_one, Int.reduceToNat, Nat.mul_one, load_dg, shareL_dg, adoptV, if_true, if_false, ite_true, ite_false, Bool.true_eq, Bool.false_eq_true, beq_self_eq_true, reduceCtorEq, reduceIte, Nat.reduceMul, Nat.reduceSub, Nat.reduceLT, Nat.reduceLeDiff, Nat.reduceEqDiff, Ev_drawn, EvD_cons, EvD_nil, EvDR_some, xd_move, xd_assign, xd_bin, xd_conv, xd_field, xd_index, xd_load, xd_len, xd_extract, xd_build, xd_call, xd_makeSlice, xd_buildSlice, xd_append, xd_store, execAt, opIds, AOp.opds, slotsAt, List.sum_cons, List.sum_nil, List.take_succ_cons, List.take_zero, List.take_nil, List.range'_succ, List.range'_zero, Nat.add_zero, maskD, within, withinL, mapD, mapL, subRows, getRow, writeBack, addId, List.contains_cons, List.contains_nil, Nat.reduceBEq, List.idxOf_cons, List.idxOf_nil, cond_true, cond_false, List.append_nil, List.replicate_succ, List.replicate_zero, List.set_cons_zero, List.set_cons_succ, norm, keepLive, compact, List.range_zero, List.range_succ, List.nil_append, List.cons_append, List.append_nil, List.contains_cons, List.contains_nil, Bool.or_false, Bool.or_true, Bool.false_or, Bool.true_or, Nat.reduceBEq, beq_self_eq_true, idsL, ids, addId, List.filter_cons, List.filter_nil, decide_true, decide_false, List.map_cons, List.map_nil, maskD, within, withinL, mapD, mapL, subRows, getRow, List.idxOf_cons, List.idxOf_nil, cond_true, cond_false, Bool.and_true, Bool.true_and, if_true, if_false, Bool.false_eq_true, List.length_cons, List.length_nil, Nat.zero_add, Nat.reduceAdd, Nat.reduceLT, List.getD_cons_zero, List.getD_cons_succ, List.set_cons_zero, List.set_cons_succ, reduceIte, reduceCtorEq, callV, takeArgs, takeV, lendArgs, lendV, lendVs, List.headD_cons, List.headD_nil, List.tail_cons, List.tail_nil, List.contains_cons, List.contains_nil, m_al, m_sl, m_ol, m_ll, m_la, m_ls, m_lo, Bool.or_false, Bool.or_true, Bool.false_or, Bool.true_or, idsL, ids, madeV, shareV, shareVs, adoptV, adoptVs, ownOnly, ownOnlyL, Bool.true_and, Bool.and_true, Bool.and_false, Bool.false_and, List.isEmpty_nil, List.isEmpty_cons, giveV, giveVs, Bool.not_false, Bool.not_true, reduceCtorEq, Bool.false_eq_true, if_false, if_true, comps, zeros, fill, layAt, List.zip_cons_cons, List.zip_nil_left, List.zip_nil_right, List.all_cons, List.all_nil, storable, List.append_nil, List.cons_append, List.nil_append, true_and, and_self, Nat.le_refl, Bool.and_self, giveVs, giveV, adoptV, madeV, Option.map_some, List.map_cons, List.map_nil, loadV_addr, Nat.add_zero, storeV, setCells, layAt, cellsAt, borrow, borrowL, cut, theRow, comps, giveVs, giveV, List.getElem?_cons_zero, List.getElem?_cons_succ, List.drop_zero, List.take_succ_cons, List.take_zero, List.take_nil, List.all_cons, List.all_nil, storable, scalarD, Bool.and_self, Bool.false_eq_true, if_false, if_true, and_true, true_and, and_self, Nat.le_refl, false_implies, forall_const, forall_false, imp_false, not_false_eq_true, adoptVs, adoptV, ld, ld2, lendVs, lend_slice0, shareL, shareL_frs, shareL_di, shareL_gblks, shareL_dg, dg_length, take_dg_self, shareV, tr, td, t2, t3', t4, t5, natO, ownOnlyL_dg]
      refine ⟨rfl, ?_⟩
      simp -implicitDefEqProofs (disch := first | omega | (apply calm_by; decide)) only [List.cons_append, List.nil_append, Ev_seq, Ev_region, Ev_skip, Ev_exit, Ev_ret, Ev_block, Ev_cond, Ev_ghost, Ev_draw_calm, GoOn_cmp, GoOn_nil, GoOn_thn, GoOn_thn_e, GoOn_thn_r, GoOn_blk, GoOn_blk_e, GoOn_blk_r, onN_n, onN_e, onN_r, Round_n, Round_e, Round_r, EvC_t, EvC_f, EvW_t, EvW_f, EvR_some, EvN_some, EvO_cons, EvO_nil, wanted, exec, put, passed, opd,
    List.length_cons, List.length_nil, Nat.zero_add, Nat.reduceAdd, List.replicate_succ, List.replicate_zero, List.set_cons_zero, List.set_cons_succ, List.getD_cons_zero, List.getD_cons_succ, Option.map_some, Option.map_none, List.map_cons, List.map_nil,
    bin_add, bin_sub, bin_mul, bin_eql, bin_neq, bin_lss, bin_leq, bin_gtr, bin_geq, bin_quo_nat, bin_rem_nat, bin_or_hi, bin_shr32, bin_shl32, lenV_slice, lenV_ref, ne_eq, not_false_eq_true, beq_true, beq_false, Bool.not_true, Bool.not_false, wrap_i64, wrap_u64, dec_t, dec_f, ite_t, ite_f, ibeq_t, ibeq_f, ibne_t, ibne_f, index_slice, index_ref, slice_slice_hi, slice_ref_hi, Int.natCast_add, Int.cast_ofNat_Int, Int.add_sub_cancel, Int.toNat_natCast, Int.toNat_natCast_add_one, Int.reduceToNat, Nat.mul_one, load_dg, shareL_dg, adoptV, if_true, if_false, ite_true, ite_false, Bool.true_eq, Bool.false_eq_true, beq_self_eq_true, reduceCtorEq, reduceIte, Nat.reduceMul, Nat.reduceSub, Nat.reduceLT, Nat.reduceLeDiff, Nat.reduceEqDiff, norm, keepLive, compact, List.range_zero, List.range_succ, List.nil_append, List.cons_append, List.append_nil, List.contains_cons, List.contains_nil, Bool.or_false, Bool.or_true, Bool.false_or, Bool.true_or, Nat.reduceBEq, beq_self_eq_true, idsL, ids, addId, List.filter_cons, List.filter_nil, decide_true, decide_false, List.map_cons, List.map_nil, maskD, within, withinL, mapD, mapL, subRows, getRow, List.idxOf_cons, List.idxOf_nil, cond_true, cond_false, Bool.and_true, Bool.true_and, if_true, if_false, Bool.false_eq_true, List.length_cons, List.length_nil, Nat.zero_add, Nat.reduceAdd, Nat.reduceLT, List.getD_cons_zero, List.getD_cons_succ, List.set_cons_zero, List.set_cons_succ, reduceIte, reduceCtorEq]
      exact ⟨n, by omega, i + 1, _, by omega, rfl, .inr rfl⟩
    · simp -implicitDefEqProofs (disch := first | omega | (apply calm_by; decide)) only [List.cons_append, List.nil_append, Ev_seq, Ev_region, Ev_skip, Ev_exit, Ev_ret, Ev_block, Ev_cond, Ev_ghost, Ev_draw_calm, GoOn_cmp, GoOn_nil, GoOn_thn, GoOn_thn_e, GoOn_thn_r, GoOn_blk, GoOn_blk_e, GoOn_blk_r, onN_n, onN_e, onN_r, Round_n, Round_e, Round_r, EvC_t, EvC_f, EvW_t, EvW_f, EvR_some, EvN_some, EvO_cons, EvO_nil, wanted, exec, put, passed, opd,
    List.length_cons, List.length_nil, Nat.zero_add, Nat.reduceAdd, List.replicate_succ, List.replicate_zero, List.set_cons_zero, List.set_cons_succ, List.getD_cons_zero, List.getD_cons_succ, Option.map_some, Option.map_none, List.map_cons, List.map_nil,
    bin_add, bin_sub, bin_mul, bin_eql, bin_neq, bin_lss, bin_leq, bin_gtr, bin_geq, bin_quo_nat, bin_rem_nat, bin_or_hi, bin_shr32, bin_shl32, lenV_slice, lenV_ref, ne_eq, not_false_eq_true, beq_true, beq_false, Bool.not_true, Bool.not_false, wrap_i64, wrap_u64, dec_t, dec_f, ite_t, ite_f, ibeq_t, ibeq_f, ibne_t, ibne_f, index_slice, index_ref, slice_slice_hi, slice_ref_hi, Int.natCast_add, Int.cast_ofNat_Int, Int.add_sub_cancel, Int.toNat_natCast, Int.toNat_natCast_add_one, Int.reduceToNat, Nat.mul_one, load_dg, shareL_dg, adoptV, if_true, if_false, ite_true, ite_false, Bool.true_eq, Bool.false_eq_true, beq_self_eq_true, reduceCtorEq, reduceIte, Nat.reduceMul, Nat.reduceSub, Nat.reduceLT, Nat.reduceLeDiff, Nat.reduceEqDiff, Ev_drawn, EvD_cons, EvD_nil, EvDR_some, xd_move, xd_assign, xd_bin, xd_conv, xd_field, xd_index, xd_load, xd_len, xd_extract, xd_build, xd_call, xd_makeSlice, xd_buildSlice, xd_append, xd_store, execAt, opIds, AOp.opds, slotsAt, List.sum_cons, List.sum_nil, List.take_succ_cons, List.take_zero, List.take_nil, List.range'_succ, List.range'_zero, Nat.add_zero, maskD, within, withinL, mapD, mapL, subRows, getRow, writeBack, addId, List.contains_cons, List.contains_nil, Nat.reduceBEq, List.idxOf_cons, List.idxOf_nil, cond_true, cond_false, List.append_nil, List.replicate_succ, List.replicate_zero, List.set_cons_zero, List.set_cons_succ, norm, keepLive, compact, List.range_zero, List.range_succ, List.nil_append, List.cons_append, List.append_nil, List.contains_cons, List.contains_nil, Bool.or_false, Bool.or_true, Bool.false_or, Bool.true_or, Nat.reduceBEq, beq_self_eq_true, idsL, ids, addId, List.filter_cons, List.filter_nil, decide_true, decide_false, List.map_cons, List.map_nil, maskD, within, withinL, mapD, mapL, subRows, getRow, List.idxOf_cons, List.idxOf_nil, cond_true, cond_false, Bool.and_true, Bool.true_and, if_true, if_false, Bool.false_eq_true, List.length_cons, List.length_nil, Nat.zero_add, Nat.reduceAdd, Nat.reduceLT, List.getD_cons_zero, List.getD_cons_succ, List.set_cons_zero, List.set_cons_succ, reduceIte, reduceCtorEq, callV, takeArgs, takeV, lendArgs, lendV, lendVs, List.headD_cons, List.headD_nil, List.tail_cons, List.tail_nil, List.contains_cons, List.contains_nil, m_al, m_sl, m_ol, m_ll, m_la, m_ls, m_lo, Bool.or_false, Bool.or_true, Bool.false_or, Bool.true_or, idsL, ids, madeV, shareV, shareVs, adoptV, adoptVs, ownOnly, ownOnlyL, Bool.true_and, Bool.and_true, Bool.and_false, Bool.false_and, List.isEmpty_nil, List.isEmpty_cons, giveV, giveVs, Bool.not_false, Bool.not_true, reduceCtorEq, Bool.false_eq_true, if_false, if_true, comps, zeros, fill, layAt, List.zip_cons_cons, List.zip_nil_left, List.zip_nil_right, List.all_cons, List.all_nil, storable, List.append_nil, List.cons_append, List.nil_append, true_and, and_self, Nat.le_refl, Bool.and_self, giveVs, giveV, adoptV, madeV, Option.map_some, List.map_cons, List.map_nil, loadV_addr, Nat.add_zero, storeV, setCells, layAt, cellsAt, borrow, borrowL, cut, theRow, comps, giveVs, giveV, List.getElem?_cons_zero, List.getElem?_cons_succ, List.drop_zero, List.take_succ_cons, List.take_zero, List.take_nil, List.all_cons, List.all_nil, storable, scalarD, Bool.and_self, Bool.false_eq_true, if_false, if_true, and_true, true_and, and_self, Nat.le_refl, false_implies, forall_const, forall_false, imp_false, not_false_eq_true, adoptVs, adoptV, ld, ld2, lendVs, lend_slice0, shareL_frs, shareL_di, shareL_gblks, shareL_dg, dg_length, take_dg_self, shareV, tr, td, t2, t3, t4, t5, natO, ownOnlyL_dg]
      refine ⟨rfl, ?_⟩
      simp -implicitDefEqProofs (disch := first | omega | (apply calm_by; decide)) only [List.cons_append, List.nil_append, Ev_seq, Ev_region, Ev_skip, Ev_exit, Ev_ret, Ev_block, Ev_cond, Ev_ghost, Ev_draw_calm, GoOn_cmp, GoOn_nil, GoOn_thn, GoOn_thn_e, GoOn_thn_r, GoOn_blk, GoOn_blk_e, GoOn_blk_r, onN_n, onN_e, onN_r, Round_n, Round_e, Round_r, EvC_t, EvC_f, EvW_t, EvW_f, EvR_some, EvN_some, EvO_cons, EvO_nil, wanted, exec, put, passed, opd,
    List.length_cons, List.length_nil, Nat.zero_add, Nat.reduceAdd, List.replicate_succ, List.replicate_zero, List.set_cons_zero, List.set_cons_succ, List.getD_cons_zero, List.getD_cons_succ, Option.map_some, Option.map_none, List.map_cons, List.map_nil,
    bin_add, bin_sub, bin_mul, bin_eql, bin_neq, bin_lss, bin_leq, bin_gtr, bin_geq, bin_quo_nat, bin_rem_nat, bin_or_hi, bin_shr32, bin_shl32, lenV_slice, lenV_ref, ne_eq, not_false_eq_true, beq_true, beq_false, Bool.not_true, Bool.not_false, wrap_i64, wrap_u64, dec_t, dec_f, ite_t, ite_f, ibeq_t, ibeq_f, ibne_t, ibne_f, index_slice, index_ref, slice_slice_hi, slice_ref_hi, Int.natCast_add, Int.cast_ofNat_Int, Int.add_sub_cancel, Int.toNat_natCast, Int.toNat_natCast_add_one, Int.reduceToNat, Nat.mul_one, load_dg, shareL_dg, adoptV, if_true, if_false, ite_true, ite_false, Bool.true_eq, Bool.false_eq_true, beq_self_eq_true, reduceCtorEq, reduceIte, Nat.reduceMul, Nat.reduceSub, Nat.reduceLT, Nat.reduceLeDiff, Nat.reduceEqDiff, norm, keepLive, compact, List.range_zero, List.range_succ, List.nil_append, List.cons_append, List.append_nil, List.contains_cons, List.contains_nil, Bool.or_false, Bool.or_true, Bool.false_or, Bool.true_or, Nat.reduceBEq, beq_self_eq_true, idsL, ids, addId, List.filter_cons, List.filter_nil, decide_true, decide_false, List.map_cons, List.map_nil, maskD, within, withinL, mapD, mapL, subRows, getRow, List.idxOf_cons, List.idxOf_nil, cond_true, cond_false, Bool.and_true, Bool.true_and, if_true, if_false, Bool.false_eq_true, List.length_cons, List.length_nil, Nat.zero_add, Nat.reduceAdd, Nat.reduceLT, List.getD_cons_zero, List.getD_cons_succ, List.set_cons_zero, List.set_cons_succ, reduceIte, reduceCtorEq]
      exact ⟨n, by omega, i + 1, _, by omega, rfl, .inr rfl⟩
set_option maxHeartbeats 2000000 in
theorem gatW_ok (h : Has1 T) (bs : List (List Frac3)) (a : List Nat) (hk : Good T bs) (hl : bs.length ≤ 63) (da : Dig a) (hla : a.length ≤ 2 ^ 30) (hlt : val a < cnt (lens bs)) :
    callW T 36 [gsp bs, .slice false 1 a.length (dg a)] [] = some (.tup [.slice true 1 bs.length (di (wAt (lens bs) (val a))), .bool true], []) := by
  refine callW_ev (h 36 (.code F.f36) rfl) rfl ?_
  have tc := gcount_ok h bs hk hl
  have hll := lens_length bs
  have hcl : (digs (cnt (lens bs))).length ≤ 5 := digs_length_le (cnt_lt hk.small (by rw [lens_length]; exact hl))
  have tm := cmp_ok h a (digs (cnt (lens bs))) da (dig_digs _) (by omega) (by omega)
  rw [val_digs] at tm
  have ec : cmpI (val a) (cnt (lens bs)) = -1 := by simp [cmpI, hlt]
  rw [ec] at tm
  generalize digs (cnt (lens bs)) = C at *
  simp only [F.f36, gsp, natO, adoptVs, adoptV, List.cons_append, List.nil_append] at tc ⊢
  have hroom : room bs.length 8 = true := room_t _ _ (by omega)
  simp -implicitDefEqProofs (disch := first | omega | (apply calm_by; decide)) only [List.cons_append, List.nil_append, Ev_seq, Ev_region, Ev_skip, Ev_exit, Ev_ret, Ev_block, Ev_cond, Ev_ghost, Ev_draw_calm, GoOn_cmp, GoOn_nil, GoOn_thn, GoOn_thn_e, GoOn_thn_r, GoOn_blk, GoOn_blk_e, GoOn_blk_r, onN_n, onN_e, onN_r, Round_n, Round_e, Round_r, EvC_t, EvC_f, EvW_t, EvW_f, EvR_some, EvN_some, EvO_cons, EvO_nil, wanted, exec, put, passed, opd,
    List.length_cons, List.length_nil, Nat.zero_add, Nat.reduceAdd, List.replicate_succ, List.replicate_zero, List.set_cons_zero, List.set_cons_succ, List.getD_cons_zero, List.getD_cons_succ, Option.map_some, Option.map_none, List.map_cons, List.map_nil,
    bin_add, bin_sub, bin_mul, bin_eql, bin_neq, bin_lss, bin_leq, bin_gtr, bin_geq, bin_quo_nat, bin_rem_nat, bin_or_hi, bin_shr32, bin_shl32, lenV_slice, lenV_ref, ne_eq, not_false_eq_true, beq_true, beq_false, Bool.not_true, Bool.not_false, wrap_i64, wrap_u64, dec_t, dec_f, ite_t, ite_f, ibeq_t, ibeq_f, ibne_t, ibne_f, index_slice, index_ref, slice_slice_hi, slice_ref_hi, Int.natCast_add, Int.cast_ofNat_Int, Int.add_sub_cancel, Int.toNat_natCast, Int.toNat_natCast_add_one, Int.reduceToNat, Nat.mul_one, load_dg, shareL_dg, adoptV, if_true, if_false, ite_true, ite_false, Bool.true_eq, Bool.false_eq_true, beq_self_eq_true, reduceCtorEq, reduceIte, Nat.reduceMul, Nat.reduceSub, Nat.reduceLT, Nat.reduceLeDiff, Nat.reduceEqDiff, callV, takeArgs, takeV, lendArgs, lendV, lendVs, List.headD_cons, List.headD_nil, List.tail_cons, List.tail_nil, List.contains_cons, List.contains_nil, m_al, m_sl, m_ol, m_ll, m_la, m_ls, m_lo, Bool.or_false, Bool.or_true, Bool.false_or, Bool.true_or, idsL, ids, madeV, shareV, shareVs, adoptV, adoptVs, ownOnly, ownOnlyL, Bool.true_and, Bool.and_true, Bool.and_false, Bool.false_and, List.isEmpty_nil, List.isEmpty_cons, giveV, giveVs, Bool.not_false, Bool.not_true, reduceCtorEq, Bool.false_eq_true, if_false, if_true, comps, zeros, fill, layAt, List.zip_cons_cons, List.zip_nil_left, List.zip_nil_right, List.all_cons, List.all_nil, storable, List.append_nil, List.cons_append, List.nil_append, true_and, and_self, Nat.le_refl, Bool.and_self, giveVs, giveV, adoptV, madeV, Option.map_some, List.map_cons, List.map_nil, loadV_addr, Nat.add_zero, storeV, setCells, layAt, cellsAt, borrow, borrowL, cut, theRow, comps, giveVs, giveV, List.getElem?_cons_zero, List.getElem?_cons_succ, List.drop_zero, List.take_succ_cons, List.take_zero, List.take_nil, List.all_cons, List.all_nil, storable, scalarD, Bool.and_self, Bool.false_eq_true, if_false, if_true, and_true, true_and, and_self, Nat.le_refl, false_implies, forall_const, forall_false, imp_false, not_false_eq_true, adoptVs, adoptV, shareL_gblks, shareL_dg, shareV, tc, tm, lendVs, lend_slice0, hroom, zeros_i64, ownOnlyL_dg]
  refine Ev_loop (fun m st => ∃ (A : List Nat), m ≤ bs.length ∧ Dig A ∧ A.length ≤ 2 ^ 30 ∧ val A = val a / cnt ((lens bs).drop m) ∧
    st = ⟨[.undef, .slice false 1 A.length (dg A), .addr 0 [] 0 0, .undef, .undef, .ref 1 [] 0 0 bs.length 1, .int .i64 ((m : Int) - 1), .undef, .undef, .undef, .undef], [], [some ⟨[.slice false 1 bs.length (gblks bs)], false, 0, 0⟩, some ⟨di (List.replicate m 0 ++ wAt ((lens bs).drop m) (val a)), false, 0, 0⟩], 0⟩) bs.length
    ⟨a, Nat.le_refl _, da, hla, by rw [List.drop_of_length_le (by omega), cnt, Nat.div_one], ?_⟩ ?_
  · rw [List.drop_of_length_le (by omega), wAt, List.append_nil]; simp only [norm, keepLive, compact, List.range_zero, List.range_succ, List.nil_append, List.cons_append, List.append_nil, List.contains_cons, List.contains_nil, Bool.or_false, Bool.or_true, Bool.false_or, Bool.true_or, Nat.reduceBEq, beq_self_eq_true, idsL, ids, addId, List.filter_cons, List.filter_nil, decide_true, decide_false, List.map_cons, List.map_nil, maskD, within, withinL, mapD, mapL, subRows, getRow, List.idxOf_cons, List.idxOf_nil, cond_true, cond_false, Bool.and_true, Bool.true_and, if_true, if_false, Bool.false_eq_true, List.length_cons, List.length_nil, Nat.zero_add, Nat.reduceAdd, Nat.reduceLT, List.getD_cons_zero, List.getD_cons_succ, List.set_cons_zero, List.set_cons_succ, reduceIte, reduceCtorEq]
  rintro m st ⟨A, hm, dA, lA, hv, rfl⟩
  cases m with
  | zero =>
    have e := take_di_self (wAt (lens bs) (val a)) bs.length (by rw [wAt_length, hll])
    simp -implicitDefEqProofs (disch := first | omega | (apply calm_by; decide)) only [List.cons_append, List.nil_append, Ev_seq, Ev_region, Ev_skip, Ev_exit, Ev_ret, Ev_block, Ev_cond, Ev_ghost, Ev_draw_calm, GoOn_cmp, GoOn_nil, GoOn_thn, GoOn_thn_e, GoOn_thn_r, GoOn_blk, GoOn_blk_e, GoOn_blk_r, onN_n, onN_e, onN_r, Round_n, Round_e, Round_r, EvC_t, EvC_f, EvW_t, EvW_f, EvR_some, EvN_some, EvO_cons, EvO_nil, wanted, exec, put, passed, opd,
    List.length_cons, List.length_nil, Nat.zero_add, Nat.reduceAdd, List.replicate_succ, List.replicate_zero, List.set_cons_zero, List.set_cons_succ, List.getD_cons_zero, List.getD_cons_succ, Option.map_some, Option.map_none, List.map_cons, List.map_nil,
    bin_add, bin_sub, bin_mul, bin_eql, bin_neq, bin_lss, bin_leq, bin_gtr, bin_geq, bin_quo_nat, bin_rem_nat, bin_or_hi, bin_shr32, bin_shl32, lenV_slice, lenV_ref, ne_eq, not_false_eq_true, beq_true, beq_false, Bool.not_true, Bool.not_false, wrap_i64, wrap_u64, dec_t, dec_f, ite_t, ite_f, ibeq_t, ibeq_f, ibne_t, ibne_f, index_slice, index_ref, slice_slice_hi, slice_ref_hi, Int.natCast_add, Int.cast_ofNat_Int, Int.add_sub_cancel, Int.toNat_natCast, Int.toNat_natCast_add_one, Int.reduceToNat, Nat.mul_one, load_dg, shareL_dg, adoptV, if_true, if_false, ite_true, ite_false, Bool.true_eq, Bool.false_eq_true, beq_self_eq_true, reduceCtorEq, reduceIte, Nat.reduceMul, Nat.reduceSub, Nat.reduceLT, Nat.reduceLeDiff, Nat.reduceEqDiff, callV, takeArgs, takeV, lendArgs, lendV, lendVs, List.headD_cons, List.headD_nil, List.tail_cons, List.tail_nil, List.contains_cons, List.contains_nil, m_al, m_sl, m_ol, m_ll, m_la, m_ls, m_lo, Bool.or_false, Bool.or_true, Bool.false_or, Bool.true_or, idsL, ids, madeV, shareV, shareVs, adoptV, adoptVs, ownOnly, ownOnlyL, Bool.true_and, Bool.and_true, Bool.and_false, Bool.false_and, List.isEmpty_nil, List.isEmpty_cons, giveV, giveVs, Bool.not_false, Bool.not_true, reduceCtorEq, Bool.false_eq_true, if_false, if_true, dg_length, take_dg, List.take_length, ends_n, ends_r, results, resVs, resV, giveV, giveVs, shareV, theRow, List.getElem?_cons_zero, List.getElem?_cons_succ, Option.map_some, List.take_zero, List.take_nil, List.take_succ_cons, List.drop_zero, List.replicate_zero, List.nil_append, e, di_length, wAt_length]
  | succ j =>
    have hset := wAt_set (lens bs) (val a) j (by omega)
    rw [lens_getD] at hset
    have hlen : (List.replicate (j + 1) 0 ++ wAt ((lens bs).drop (j + 1)) (val a)).length = bs.length := by rw [List.length_append, List.length_replicate, wAt_length, List.length_drop]; omega
    have hcd : cnt ((lens bs).drop j) = ((bs.getD j []).length + 1) * cnt ((lens bs).drop (j + 1)) := by rw [drop_get (lens bs) j (by omega), cnt, lens_getD]
    have hgb := hk.get (i := j) (by omega)
    have hki := hgb.len
    have ld := fun rows => load_gblk rows bs j (by omega)
    generalize List.replicate (j + 1) 0 ++ wAt ((lens bs).drop (j + 1)) (val a) = R at *
    generalize bs.getD j [] = l at *
    rw [← hv] at hset
    have hq : val A / (l.length + 1) = val a / cnt ((lens bs).drop j) := by rw [hv, hcd, Nat.div_div_eq_div_mul, Nat.mul_comm]
    have hkk : gblk l = .slice false 3 l.length (frs l) := rfl
    have tr := gradix_ok h l hki
    have hml := Nat.mod_lt (val A) (show 0 < l.length + 1 by omega)
    have td := gchoice_ok h l ((val A % (l.length + 1) : Nat) : Int) hki
    rw [hkk] at ld tr td
    have ed : (if ((val A % (l.length + 1) : Nat) : Int) = (l.length : Int) then -1 else ((val A % (l.length + 1) : Nat) : Int)) = chI l.length (val A % (l.length + 1)) := by unfold chI; split <;> split <;> omega
    rw [ed] at td
    have t2 := from_ok h (l.length + 1) (by omega)
    have l2 : (digs (l.length + 1)).length ≤ 1 := digs_length_le (by omega)
    have t3 := divMod_ok h A (digs (l.length + 1)) dA (dig_digs _) (by omega) (by omega) (by rw [val_digs]; omega)
    rw [val_digs] at t3
    have l4 : (digs (val A % (l.length + 1))).length ≤ 1 := digs_length_le (by omega)
    have t4 := uint64_ok h (digs (val A % (l.length + 1))) (dig_digs _) (by omega) (by rw [val_digs]; omega)
    rw [val_digs] at t4
    have hql : (digs (val A / (l.length + 1))).length ≤ 2 ^ 30 := by
      have h1 : val A / (l.length + 1) < 4294967296 ^ A.length := Nat.lt_of_le_of_lt (Nat.div_le_self _ _) (val_lt dA)
      exact Nat.le_trans (digs_length_le h1) lA
    have dq := dig_digs (val A / (l.length + 1))
    have vq := val_digs (val A / (l.length + 1))
    simp only [Int.natCast_add, Int.cast_ofNat_Int] at t2
    generalize digs (val A % (l.length + 1)) = M at *
    generalize digs (val A / (l.length + 1)) = Q at *
    generalize digs (l.length + 1) = E at *
    generalize val A % (l.length + 1) = d at *
    simp -implicitDefEqProofs (disch := first | omega | (apply calm_by; decide)) only [List.cons_append, List.nil_append, Ev_seq, Ev_region, Ev_skip, Ev_exit, Ev_ret, Ev_block, Ev_cond, Ev_ghost, Ev_draw_calm, GoOn_cmp, GoOn_nil, GoOn_thn, GoOn_thn_e, GoOn_thn_r, GoOn_blk, GoOn_blk_e, GoOn_blk_r, onN_n, onN_e, onN_r, Round_n, Round_e, Round_r, EvC_t, EvC_f, EvW_t, EvW_f, EvR_some, EvN_some, EvO_cons, EvO_nil, wanted, exec, put, passed, opd,
    List.length_cons, List.length_nil, Nat.zero_add, Nat.reduceAdd, List.replicate_succ, List.replicate_zero, List.set_cons_zero, List.set_cons_succ, List.getD_cons_zero, List.getD_cons_succ, Option.map_some, Option.map_none, List.map_cons, List.map_nil,
    bin_add, bin_sub, bin_mul, bin_eql, bin_neq, bin_lss, bin_leq, bin_gtr, bin_geq, bin_quo_nat, bin_rem_nat, bin_or_hi, bin_shr32, bin_shl32, lenV_slice, lenV_ref, ne_eq, not_false_eq_true, beq_true, beq_false, Bool.not_true, Bool.not_false, wrap_i64, wrap_u64, dec_t, dec_f, ite_t, ite_f, ibeq_t, ibeq_f, ibne_t, ibne_f, index_slice, index_ref, slice_slice_hi, slice_ref_hi, Int.natCast_add, Int.cast_ofNat_Int, Int.add_sub_cancel, Int.toNat_natCast, Int.toNat_natCast_add_one, Int.reduceToNat, Nat.mul_one, load_dg, shareL_dg, adoptV, if_true, if_false, ite_true, ite_false, Bool.true_eq, Bool.false_eq_true, beq_self_eq_true, reduceCtorEq, reduceIte, Nat.reduceMul, Nat.reduceSub, Nat.reduceLT, Nat.reduceLeDiff, Nat.reduceEqDiff, norm, keepLive, compact, List.range_zero, List.range_succ, List.nil_append, List.cons_append, List.append_nil, List.contains_cons, List.contains_nil, Bool.or_false, Bool.or_true, Bool.false_or, Bool.true_or, Nat.reduceBEq, beq_self_eq_true, idsL, ids, addId, List.filter_cons, List.filter_nil, decide_true, decide_false, List.map_cons, List.map_nil, maskD, within, withinL, mapD, mapL, subRows, getRow, List.idxOf_cons, List.idxOf_nil, cond_true, cond_false, Bool.and_true, Bool.true_and, if_true, if_false, Bool.false_eq_true, List.length_cons, List.length_nil, Nat.zero_add, Nat.reduceAdd, Nat.reduceLT, List.getD_cons_zero, List.getD_cons_succ, List.set_cons_zero, List.set_cons_succ, reduceIte, reduceCtorEq, callV, takeArgs, takeV, lendArgs, lendV, lendVs, List.headD_cons, List.headD_nil, List.tail_cons, List.tail_nil, List.contains_cons, List.contains_nil, m_al, m_sl, m_ol, m_ll, m_la, m_ls, m_lo, Bool.or_false, Bool.or_true, Bool.false_or, Bool.true_or, idsL, ids, madeV, shareV, shareVs, adoptV, adoptVs, ownOnly, ownOnlyL, Bool.true_and, Bool.and_true, Bool.and_false, Bool.false_and, List.isEmpty_nil, List.isEmpty_cons, giveV, giveVs, Bool.not_false, Bool.not_true, reduceCtorEq, Bool.false_eq_true, if_false, if_true, comps, zeros, fill, layAt, List.zip_cons_cons, List.zip_nil_left, List.zip_nil_right, List.all_cons, List.all_nil, storable, List.append_nil, List.cons_append, List.nil_append, true_and, and_self, Nat.le_refl, Bool.and_self, giveVs, giveV, adoptV, madeV, Option.map_some, List.map_cons, List.map_nil, loadV_addr, Nat.add_zero, storeV, setCells, layAt, cellsAt, borrow, borrowL, cut, theRow, comps, giveVs, giveV, List.getElem?_cons_zero, List.getElem?_cons_succ, List.drop_zero, List.take_succ_cons, List.take_zero, List.take_nil, List.all_cons, List.all_nil, storable, scalarD, Bool.and_self, Bool.false_eq_true, if_false, if_true, and_true, true_and, and_self, Nat.le_refl, false_implies, forall_const, forall_false, imp_false, not_false_eq_true, adoptVs, adoptV, ld, lendVs, lend_slice0, shareL_frs, shareL_di, shareL_gblks, shareL_dg, dg_length, take_dg_self, shareV, tr, td, t2, t3, t4, natO, ownOnlyL_dg, di_length, di_set, hlen]
    exact ⟨j, by omega, Q, by omega, dq, hql, by rw [vq, hq], by rw [hset]⟩

end
end Av

/- A part of the proof: WorldsVisits: for every input the law returns true and the argument reads behind the call as it read before. Conditions: none. -/
import Derived.Test.YtndbkcpofkdbiaaWv2
import Derived.Test.YtndbkcpofkdbiaaWv1
import Derived.Wp
import Derived.Below
import Derived.Laws.World
import Derived.Laws.Sem
import Derived.Orders
import Derived.Laws.AppendOwn
import Derived.Laws.IdiomCopy
import Derived.Laws.Cells
import Derived.Laws.MakeOwn
import Derived.Laws.BytesArg
import Derived.Laws.Strings
import Derived.Laws.Entries
set_option linter.all false
namespace Av
open Go
set_option linter.unusedSimpArgs false
def b25i : ACode :=
  (.seq (.seq (.region [⟨.move (.v 13), none, none⟩,
      ⟨.bin .shr (.t 0) (.c (.int .u64 32)), none, none⟩,
      ⟨.bin .neq (.t 1) (.c (.int .u64 0)), none, none⟩,
      ⟨.move (.t 2), none, none⟩,
      ⟨.move (.v 13), none, (some (3, false))⟩,
      ⟨.move (.v 10), none, (some (3, false))⟩,
      ⟨.bin .mul (.t 4) (.t 5), none, (some (3, false))⟩,
      ⟨.move (.v 14), none, (some (3, false))⟩,
      ⟨.bin .shl (.t 7) (.c (.int .u64 32)), none, (some (3, false))⟩,
      ⟨.move (.v 6), none, (some (3, false))⟩,
      ⟨.move (.v 11), none, (some (3, false))⟩,
      ⟨.move (.v 4), none, (some (3, false))⟩,
      ⟨.bin .add (.t 10) (.t 11), none, (some (3, false))⟩,
      ⟨.bin .sub (.t 12) (.c (.int .i64 2)), none, (some (3, false))⟩,
      ⟨.indexAddr 1 (.t 9) (.t 13), none, (some (3, false))⟩,
      ⟨.load .asis false 1 (.t 14), none, (some (3, false))⟩,
      ⟨.conv .u64 (.t 15), none, (some (3, false))⟩,
      ⟨.bin .or (.t 8) (.t 16), none, (some (3, false))⟩,
      ⟨.bin .gtr (.t 6) (.t 17), none, (some (3, false))⟩,
      ⟨.pick (.t 3) (.c (.bool true)) (.t 18), none, none⟩])
    (.cond (.t 19)
     .skip
     (.exit 2)))
    (.block 3 (.seq (.region [⟨.move (.v 13), none, none⟩,
      ⟨.bin .sub (.t 0) (.c (.int .u64 1)), none, none⟩,
      ⟨.assign .asis (.t 1), (some 13), none⟩])
    (.seq (.region [⟨.move (.v 14), none, none⟩,
      ⟨.move (.v 9), none, none⟩,
      ⟨.bin .add (.t 0) (.t 1), none, none⟩,
      ⟨.assign .asis (.t 2), (some 14), none⟩])
    (.seq (.region [⟨.move (.v 14), none, none⟩,
      ⟨.bin .shr (.t 0) (.c (.int .u64 32)), none, none⟩,
      ⟨.bin .neq (.t 1) (.c (.int .u64 0)), none, none⟩])
    (.cond (.t 2)
     (.exit 2)
     .skip))))))
def b25 : ACode :=
  (.seq (.seq (.region [⟨.move (.v 11), none, none⟩,
     ⟨.bin .geq (.t 0) (.c (.int .i64 0)), none, none⟩])
   (.cond (.t 1)
    .skip
    (.exit 0)))
   (.seq (.block 1 (.seq (.draw [⟨.move (.v 6), none, none⟩,
     ⟨.move (.v 11), none, none⟩,
     ⟨.move (.v 4), none, none⟩,
     ⟨.bin .add (.t 1) (.t 2), none, none⟩,
     ⟨.indexAddr 1 (.t 0) (.t 3), none, none⟩,
     ⟨.load .asis false 1 (.t 4), none, none⟩,
     ⟨.conv .u64 (.t 5), none, none⟩,
     ⟨.bin .shl (.t 6) (.c (.int .u64 32)), none, none⟩,
     ⟨.move (.v 6), none, none⟩,
     ⟨.move (.v 11), none, none⟩,
     ⟨.move (.v 4), none, none⟩,
     ⟨.bin .add (.t 9) (.t 10), none, none⟩,
     ⟨.bin .sub (.t 11) (.c (.int .i64 1)), none, none⟩,
     ⟨.indexAddr 1 (.t 8) (.t 12), none, none⟩,
     ⟨.load .asis false 1 (.t 13), none, none⟩,
     ⟨.conv .u64 (.t 14), none, none⟩,
     ⟨.bin .or (.t 7) (.t 15), none, none⟩,
     ⟨.assign .asis (.t 16), (some 12), none⟩] [] [0, 0, 0, 0, 0, 0, 0, 0, 0, 0, 0, 0, 0, 0, 0, 0, 0, 0])
   (.seq (.draw [⟨.move (.v 12), none, none⟩,
     ⟨.move (.v 9), none, none⟩,
     ⟨.bin .quo (.t 0) (.t 1), none, none⟩,
     ⟨.move (.v 12), none, none⟩,
     ⟨.move (.v 9), none, none⟩,
     ⟨.bin .rem (.t 3) (.t 4), none, none⟩,
     ⟨.assign .asis (.t 2), (some 13), none⟩,
     ⟨.assign .asis (.t 5), (some 14), none⟩] [] [0, 0, 0, 0, 0, 0, 0, 0])
   (.seq (.block 2 (.loop [4, 5, 6, 7, 8, 9, 10, 11, 13, 14]
    (.seq (.seq (.region [⟨.move (.v 13), none, none⟩,
      ⟨.bin .shr (.t 0) (.c (.int .u64 32)), none, none⟩,
      ⟨.bin .neq (.t 1) (.c (.int .u64 0)), none, none⟩,
      ⟨.move (.t 2), none, none⟩,
      ⟨.move (.v 13), none, (some (3, false))⟩,
      ⟨.move (.v 10), none, (some (3, false))⟩,
      ⟨.bin .mul (.t 4) (.t 5), none, (some (3, false))⟩,
      ⟨.move (.v 14), none, (some (3, false))⟩,
      ⟨.bin .shl (.t 7) (.c (.int .u64 32)), none, (some (3, false))⟩,
      ⟨.move (.v 6), none, (some (3, false))⟩,
      ⟨.move (.v 11), none, (some (3, false))⟩,
      ⟨.move (.v 4), none, (some (3, false))⟩,
      ⟨.bin .add (.t 10) (.t 11), none, (some (3, false))⟩,
      ⟨.bin .sub (.t 12) (.c (.int .i64 2)), none, (some (3, false))⟩,
      ⟨.indexAddr 1 (.t 9) (.t 13), none, (some (3, false))⟩,
      ⟨.load .asis false 1 (.t 14), none, (some (3, false))⟩,
      ⟨.conv .u64 (.t 15), none, (some (3, false))⟩,
      ⟨.bin .or (.t 8) (.t 16), none, (some (3, false))⟩,
      ⟨.bin .gtr (.t 6) (.t 17), none, (some (3, false))⟩,
      ⟨.pick (.t 3) (.c (.bool true)) (.t 18), none, none⟩])
    (.cond (.t 19)
     .skip
     (.exit 2)))
    (.block 3 (.seq (.region [⟨.move (.v 13), none, none⟩,
      ⟨.bin .sub (.t 0) (.c (.int .u64 1)), none, none⟩,
      ⟨.assign .asis (.t 1), (some 13), none⟩])
    (.seq (.region [⟨.move (.v 14), none, none⟩,
      ⟨.move (.v 9), none, none⟩,
      ⟨.bin .add (.t 0) (.t 1), none, none⟩,
      ⟨.assign .asis (.t 2), (some 14), none⟩])
    (.seq (.region [⟨.move (.v 14), none, none⟩,
      ⟨.bin .shr (.t 0) (.c (.int .u64 32)), none, none⟩,
      ⟨.bin .neq (.t 1) (.c (.int .u64 0)), none, none⟩])
    (.cond (.t 2)
     (.exit 2)
     .skip))))))))
   (.seq (.seq (.region [⟨.move (.v 6), none, none⟩,
     ⟨.move (.v 11), none, none⟩,
     ⟨.move (.v 11), none, none⟩,
     ⟨.move (.v 4), none, none⟩,
     ⟨.bin .add (.t 2) (.t 3), none, none⟩,
     ⟨.bin .add (.t 4) (.c (.int .i64 1)), none, none⟩,
     ⟨.slice 1 (.t 0) (some (.t 1)) (some (.t 5)), none, none⟩,
     ⟨.move (.v 7), none, none⟩,
     ⟨.move (.v 13), none, none⟩,
     ⟨.call 28 [.asis, .asis, .asis] .share [(.t 6), (.t 7), (.t 8)], none, none⟩])
   (.cond (.t 9)
    (.seq (.region [⟨.move (.v 13), none, none⟩,
      ⟨.bin .sub (.t 0) (.c (.int .u64 1)), none, none⟩,
      ⟨.assign .asis (.t 1), (some 13), none⟩])
    (.region [⟨.move (.v 6), none, none⟩,
      ⟨.move (.v 11), none, none⟩,
      ⟨.move (.v 11), none, none⟩,
      ⟨.move (.v 4), none, none⟩,
      ⟨.bin .add (.t 2) (.t 3), none, none⟩,
      ⟨.bin .add (.t 4) (.c (.int .i64 1)), none, none⟩,
      ⟨.slice 1 (.t 0) (some (.t 1)) (some (.t 5)), none, none⟩,
      ⟨.move (.v 7), none, none⟩,
      ⟨.call 29 [.asis, .asis] .share [(.t 6), (.t 7)], none, none⟩]))
    .skip))
   (.region [⟨.move (.v 8), none, none⟩,
     ⟨.move (.v 11), none, none⟩,
     ⟨.move (.v 13), none, none⟩,
     ⟨.conv .u32 (.t 2), none, none⟩,
     ⟨.indexAddr 1 (.t 0) (.t 1), none, none⟩,
     ⟨.store true 1 (.t 4) (.t 3), none, none⟩]))))))
   (.region [⟨.move (.v 11), none, none⟩,
     ⟨.bin .sub (.t 0) (.c (.int .i64 1)), none, none⟩,
     ⟨.assign .asis (.t 1), (some 11), none⟩])))
section
variable {T : Nat → Option Fun}

/-- A state of divLong's outer loop. -/
def st25 (k s L j top next : Nat) (V : List Nat) (v12 v13 v14 : D) (ts : List D) (rows : Rows) (i : Int) : St :=
  ⟨[.undef, .undef, .undef, .undef, .int .i64 ((k : Int) + 2), .int .u64 s, .ref 0 [] 0 0 (L + (k + 2) + 1) 1, .slice false 1 (k + 2) (dg V), .ref 1 [] 0 0 (L + 1) 1, .int .u64 top, .int .u64 next, .int .i64 i, v12, v13, v14, .undef, .undef, .undef, .undef], ts, rows, 0⟩

set_option maxHeartbeats 2000000 in
/-- The guess is put right. -/
theorem guess_ok {rows : Rows} {Qf : AExit → St → Prop} {ks : List Todo} (k s L j top next w0 two q g0 r0 : Nat) (V : List Nat) (v12 : D) (ts0 : List D) (hrows : ∃ a b, rows = [some a, some b])
    (hL : L + k < 2 ^ 50) (hj : j ≤ L) (gt : top < 4294967296) (gt0 : 2147483648 ≤ top) (gn : next < 4294967296) (gw : w0 < 4294967296) (htwo : two < 4294967296 * top + 4294967296) (hqB : q < 4294967296)
    (hld : loadV rows false 1 (.addr 0 [] 0 (j + k)) = some (.int .u32 (w0 : Nat)))
    (F1 : ∀ g, two * 4294967296 + w0 < g * (top * 4294967296 + next) → q < g) (F2 : ∀ g, g < 4294967296 → g * (top * 4294967296 + next) ≤ two * 4294967296 + w0 → g ≤ q + 1)
    (h0 : g0 * top + r0 = two) (hr0 : r0 < 4294967296) (hq0 : q ≤ g0)
    (hK : ∀ (g r : Nat) (s' : St), g < 4294967296 → q ≤ g → g ≤ q + 1 → (∃ ts, s' = st25 k s L j top next V .undef (.int .u64 g) (.int .u64 r) ts rows j) → GoOn T Qf ks .normal s') :
    Ev T (.loop [4, 5, 6, 7, 8, 9, 10, 11, 13, 14] b25i) (st25 k s L j top next V v12 (.int .u64 g0) (.int .u64 r0) ts0 rows j) (.blk 2 :: ks) Qf := by
  obtain ⟨ra, rb, rfl⟩ := hrows
  refine Ev_loop (fun g st => ∃ r : Nat, g * top + r = two ∧ r < 4294967296 ∧ q ≤ g ∧ st = st25 k s L j top next V .undef (.int .u64 g) (.int .u64 r) [] [some ra, some rb] j) g0 ⟨r0, h0, hr0, hq0, ?_⟩ ?_
  · simp only [st25, norm, keepLive, compact, List.range_zero, List.range_succ, List.nil_append, List.cons_append, List.append_nil, List.contains_cons, List.contains_nil, Bool.or_false, Bool.or_true, Bool.false_or, Bool.true_or, Nat.reduceBEq, beq_self_eq_true, idsL, ids, addId, List.filter_cons, List.filter_nil, decide_true, decide_false, List.map_cons, List.map_nil, maskD, within, withinL, mapD, mapL, subRows, getRow, List.idxOf_cons, List.idxOf_nil, cond_true, cond_false, Bool.and_true, Bool.true_and, if_true, if_false, Bool.false_eq_true, List.length_cons, List.length_nil, Nat.zero_add, Nat.reduceAdd, Nat.reduceLT, List.getD_cons_zero, List.getD_cons_succ, List.set_cons_zero, List.set_cons_succ, reduceIte, reduceCtorEq]
  rintro g st ⟨r, hgr, hr, hqg, rfl⟩
  have i3 : ((j : Int) + ((k : Int) + 2) - 2).toNat = j + k := by omega
  have hV2 : g * (top * 4294967296 + next) = (g * top) * 4294967296 + g * next := by rw [Nat.mul_add, Nat.mul_assoc]
  have hg2 : g ≤ two := by
    have := Nat.mul_le_mul_left g (show 1 ≤ top by omega)
    omega
  -- one less
  have less : q < g → (g - 1) * top + (r + top) = two := fun h => by
    have e : g * top = (g - 1) * top + top := by
      have := Nat.succ_mul (g - 1) top
      rw [show (g - 1).succ = g by omega] at this
      exact this
    omega
  have small : r + top ≥ 4294967296 → g ≤ 4294967296 := fun h => by
    rcases Nat.lt_or_ge 4294967296 g with hc | hc
    · exfalso
      have := Nat.mul_le_mul_right top hc
      rw [Nat.succ_mul] at this
      omega
    · exact hc
  have e1 : q < g → ((g - 1 : Nat) : Int) = (g : Int) - 1 := fun h => by omega
  -- the loop goes round, or is left
  have brk : q < g → r + top ≥ 4294967296 → g - 1 < 4294967296 ∧ q ≤ g - 1 ∧ g - 1 ≤ q + 1 := fun h1 h2 => by
    have h3 := small h2
    have h4 := less h1
    refine ⟨by omega, by omega, F2 _ (by omega) ?_⟩
    have h5 : (g - 1) * next ≤ 4294967295 * 4294967295 := Nat.mul_le_mul (by omega) (by omega)
    have h6 : (g - 1) * (top * 4294967296 + next) = ((g - 1) * top) * 4294967296 + (g - 1) * next := by rw [Nat.mul_add, Nat.mul_assoc]
    omega
  by_cases c1 : g < 4294967296
  · have g5 : ((g : Nat) : Int) * ((next : Nat) : Int) = ((g * next : Nat) : Int) := (Int.natCast_mul _ _).symm
    have g6 : g * next ≤ 4294967295 * 4294967295 := Nat.mul_le_mul (by omega) (by omega)
    obtain ⟨pr, hpr⟩ : ∃ pr, pr = g * next := ⟨_, rfl⟩
    rw [← hpr] at g5 g6 hV2
    obtain ⟨z, hz⟩ : ∃ z, z = r * 4294967296 + w0 := ⟨_, rfl⟩
    have hzc : ((r : Nat) : Int) * 4294967296 + ((w0 : Nat) : Int) = ((z : Nat) : Int) := by omega
    have c1' : (g : Int) / 4294967296 = 0 := by omega
    by_cases c2 : pr > z
    · have hlt : q < g := F1 g (by omega)
      have el := e1 hlt
      have hless := less hlt
      have hbrk := brk hlt
      clear F1 F2 less small brk hV2 e1
      by_cases c3 : r + top < 4294967296
      · have c3' : ((r : Int) + (top : Int)) / 4294967296 = 0 := by omega
        simp only [b25i, st25]
        simp -implicitDefEqProofs (disch := first | omega | (apply calm_by; decide)) only [List.cons_append, List.nil_append, Ev_seq, Ev_region, Ev_skip, Ev_exit, Ev_ret, Ev_block, Ev_cond, Ev_ghost, Ev_draw_calm, GoOn_cmp, GoOn_nil, GoOn_thn, GoOn_thn_e, GoOn_thn_r, GoOn_blk, GoOn_blk_e, GoOn_blk_r, onN_n, onN_e, onN_r, Round_n, Round_e, Round_r, EvC_t, EvC_f, EvW_t, EvW_f, EvR_some, EvN_some, EvO_cons, EvO_nil, wanted, exec, put, passed, opd,
    List.length_cons, List.length_nil, Nat.zero_add, Nat.reduceAdd, List.replicate_succ, List.replicate_zero, List.set_cons_zero, List.set_cons_succ, List.getD_cons_zero, List.getD_cons_succ, Option.map_some, Option.map_none, List.map_cons, List.map_nil,
    bin_add, bin_sub, bin_mul, bin_eql, bin_neq, bin_lss, bin_leq, bin_gtr, bin_geq, bin_quo_nat, bin_rem_nat, bin_or_hi, bin_shr32, bin_shl32, lenV_slice, lenV_ref, ne_eq, not_false_eq_true, beq_true, beq_false, Bool.not_true, Bool.not_false, wrap_i64, wrap_u64, dec_t, dec_f, ite_t, ite_f, ibeq_t, ibeq_f, ibne_t, ibne_f, index_slice, index_ref, slice_slice_hi, slice_ref_hi, Int.natCast_add, Int.cast_ofNat_Int, Int.add_sub_cancel, Int.toNat_natCast, Int.toNat_natCast_add_one, Int.reduceToNat, Nat.mul_one, load_dg, shareL_dg, adoptV, if_true, if_false, ite_true, ite_false, Bool.true_eq, Bool.false_eq_true, beq_self_eq_true, reduceCtorEq, reduceIte, Nat.reduceMul, Nat.reduceSub, Nat.reduceLT, Nat.reduceLeDiff, Nat.reduceEqDiff, c1', i3, g5, hld, hzc, c3']
        refine ⟨g - 1, by omega, r + top, hless, c3, by omega, ?_⟩
        simp only [st25, norm, keepLive, compact, List.range_zero, List.range_succ, List.nil_append, List.cons_append, List.append_nil, List.contains_cons, List.contains_nil, Bool.or_false, Bool.or_true, Bool.false_or, Bool.true_or, Nat.reduceBEq, beq_self_eq_true, idsL, ids, addId, List.filter_cons, List.filter_nil, decide_true, decide_false, List.map_cons, List.map_nil, maskD, within, withinL, mapD, mapL, subRows, getRow, List.idxOf_cons, List.idxOf_nil, cond_true, cond_false, Bool.and_true, Bool.true_and, if_true, if_false, Bool.false_eq_true, List.length_cons, List.length_nil, Nat.zero_add, Nat.reduceAdd, Nat.reduceLT, List.getD_cons_zero, List.getD_cons_succ, List.set_cons_zero, List.set_cons_succ, reduceIte, reduceCtorEq, el, Int.natCast_add]
      · have c3' : ((r : Int) + (top : Int)) / 4294967296 = 1 := by omega
        simp only [b25i, st25]
        simp -implicitDefEqProofs (disch := first | omega | (apply calm_by; decide)) only [List.cons_append, List.nil_append, Ev_seq, Ev_region, Ev_skip, Ev_exit, Ev_ret, Ev_block, Ev_cond, Ev_ghost, Ev_draw_calm, GoOn_cmp, GoOn_nil, GoOn_thn, GoOn_thn_e, GoOn_thn_r, GoOn_blk, GoOn_blk_e, GoOn_blk_r, onN_n, onN_e, onN_r, Round_n, Round_e, Round_r, EvC_t, EvC_f, EvW_t, EvW_f, EvR_some, EvN_some, EvO_cons, EvO_nil, wanted, exec, put, passed, opd,
    List.length_cons, List.length_nil, Nat.zero_add, Nat.reduceAdd, List.replicate_succ, List.replicate_zero, List.set_cons_zero, List.set_cons_succ, List.getD_cons_zero, List.getD_cons_succ, Option.map_some, Option.map_none, List.map_cons, List.map_nil,
    bin_add, bin_sub, bin_mul, bin_eql, bin_neq, bin_lss, bin_leq, bin_gtr, bin_geq, bin_quo_nat, bin_rem_nat, bin_or_hi, bin_shr32, bin_shl32, lenV_slice, lenV_ref, ne_eq, not_false_eq_true, beq_true, beq_false, Bool.not_true, Bool.not_false, wrap_i64, wrap_u64, dec_t, dec_f, ite_t, ite_f, ibeq_t, ibeq_f, ibne_t, ibne_f, index_slice, index_ref, slice_slice_hi, slice_ref_hi, Int.natCast_add, Int.cast_ofNat_Int, Int.add_sub_cancel, Int.toNat_natCast, Int.toNat_natCast_add_one, Int.reduceToNat, Nat.mul_one, load_dg, shareL_dg, adoptV, if_true, if_false, ite_true, ite_false, Bool.true_eq, Bool.false_eq_true, beq_self_eq_true, reduceCtorEq, reduceIte, Nat.reduceMul, Nat.reduceSub, Nat.reduceLT, Nat.reduceLeDiff, Nat.reduceEqDiff, c1', i3, g5, hld, hzc, c3']
        obtain ⟨p1, p2, p3⟩ := hbrk (by omega)
        exact hK (g - 1) (r + top) _ p1 p2 p3 ⟨_, by simp only [st25, el, Int.natCast_add]; rfl⟩
    · have p3 := F2 g c1 (by omega)
      clear F1 F2 less small brk hV2 e1
      simp only [b25i, st25]
      simp -implicitDefEqProofs (disch := first | omega | (apply calm_by; decide)) only [List.cons_append, List.nil_append, Ev_seq, Ev_region, Ev_skip, Ev_exit, Ev_ret, Ev_block, Ev_cond, Ev_ghost, Ev_draw_calm, GoOn_cmp, GoOn_nil, GoOn_thn, GoOn_thn_e, GoOn_thn_r, GoOn_blk, GoOn_blk_e, GoOn_blk_r, onN_n, onN_e, onN_r, Round_n, Round_e, Round_r, EvC_t, EvC_f, EvW_t, EvW_f, EvR_some, EvN_some, EvO_cons, EvO_nil, wanted, exec, put, passed, opd,
    List.length_cons, List.length_nil, Nat.zero_add, Nat.reduceAdd, List.replicate_succ, List.replicate_zero, List.set_cons_zero, List.set_cons_succ, List.getD_cons_zero, List.getD_cons_succ, Option.map_some, Option.map_none, List.map_cons, List.map_nil,
    bin_add, bin_sub, bin_mul, bin_eql, bin_neq, bin_lss, bin_leq, bin_gtr, bin_geq, bin_quo_nat, bin_rem_nat, bin_or_hi, bin_shr32, bin_shl32, lenV_slice, lenV_ref, ne_eq, not_false_eq_true, beq_true, beq_false, Bool.not_true, Bool.not_false, wrap_i64, wrap_u64, dec_t, dec_f, ite_t, ite_f, ibeq_t, ibeq_f, ibne_t, ibne_f, index_slice, index_ref, slice_slice_hi, slice_ref_hi, Int.natCast_add, Int.cast_ofNat_Int, Int.add_sub_cancel, Int.toNat_natCast, Int.toNat_natCast_add_one, Int.reduceToNat, Nat.mul_one, load_dg, shareL_dg, adoptV, if_true, if_false, ite_true, ite_false, Bool.true_eq, Bool.false_eq_true, beq_self_eq_true, reduceCtorEq, reduceIte, Nat.reduceMul, Nat.reduceSub, Nat.reduceLT, Nat.reduceLeDiff, Nat.reduceEqDiff, c1', i3, g5, hld, hzc]
      exact hK g r _ c1 hqg p3 ⟨_, by simp only [st25]; rfl⟩
  · have hlt : q < g := by omega
    have el := e1 hlt
    have hless := less hlt
    have hbrk := brk hlt
    have hg64 : (g : Int) ≤ 18446744073709551615 := by omega
    have c1' : ((g : Int) / 4294967296 == 0) = false := ibeq_f _ _ (by omega)
    have c1'' : ((g : Int) / 4294967296 != 0) = true := ibne_t _ _ (by omega)
    clear F1 F2 less small brk hV2 e1
    by_cases c3 : r + top < 4294967296
    · have c3' : ((r : Int) + (top : Int)) / 4294967296 = 0 := by omega
      simp only [b25i, st25]
      simp -implicitDefEqProofs (disch := first | omega | (apply calm_by; decide)) only [List.cons_append, List.nil_append, Ev_seq, Ev_region, Ev_skip, Ev_exit, Ev_ret, Ev_block, Ev_cond, Ev_ghost, Ev_draw_calm, GoOn_cmp, GoOn_nil, GoOn_thn, GoOn_thn_e, GoOn_thn_r, GoOn_blk, GoOn_blk_e, GoOn_blk_r, onN_n, onN_e, onN_r, Round_n, Round_e, Round_r, EvC_t, EvC_f, EvW_t, EvW_f, EvR_some, EvN_some, EvO_cons, EvO_nil, wanted, exec, put, passed, opd,
    List.length_cons, List.length_nil, Nat.zero_add, Nat.reduceAdd, List.replicate_succ, List.replicate_zero, List.set_cons_zero, List.set_cons_succ, List.getD_cons_zero, List.getD_cons_succ, Option.map_some, Option.map_none, List.map_cons, List.map_nil,
    bin_add, bin_sub, bin_mul, bin_eql, bin_neq, bin_lss, bin_leq, bin_gtr, bin_geq, bin_quo_nat, bin_rem_nat, bin_or_hi, bin_shr32, bin_shl32, lenV_slice, lenV_ref, ne_eq, not_false_eq_true, beq_true, beq_false, Bool.not_true, Bool.not_false, wrap_i64, wrap_u64, dec_t, dec_f, ite_t, ite_f, ibeq_t, ibeq_f, ibne_t, ibne_f, index_slice, index_ref, slice_slice_hi, slice_ref_hi, Int.natCast_add, Int.cast_ofNat_Int, Int.add_sub_cancel, Int.toNat_natCast, Int.toNat_natCast_add_one, Int.reduceToNat, Nat.mul_one, load_dg, shareL_dg, adoptV, if_true, if_false, ite_true, ite_false, Bool.true_eq, Bool.false_eq_true, beq_self_eq_true, reduceCtorEq, reduceIte, Nat.reduceMul, Nat.reduceSub, Nat.reduceLT, Nat.reduceLeDiff, Nat.reduceEqDiff, c1', c1'', i3, hld, c3']
      refine ⟨g - 1, by omega, r + top, hless, c3, by omega, ?_⟩
      simp only [st25, norm, keepLive, compact, List.range_zero, List.range_succ, List.nil_append, List.cons_append, List.append_nil, List.contains_cons, List.contains_nil, Bool.or_false, Bool.or_true, Bool.false_or, Bool.true_or, Nat.reduceBEq, beq_self_eq_true, idsL, ids, addId, List.filter_cons, List.filter_nil, decide_true, decide_false, List.map_cons, List.map_nil, maskD, within, withinL, mapD, mapL, subRows, getRow, List.idxOf_cons, List.idxOf_nil, cond_true, cond_false, Bool.and_true, Bool.true_and, if_true, if_false, Bool.false_eq_true, List.length_cons, List.length_nil, Nat.zero_add, Nat.reduceAdd, Nat.reduceLT, List.getD_cons_zero, List.getD_cons_succ, List.set_cons_zero, List.set_cons_succ, reduceIte, reduceCtorEq, el, Int.natCast_add]
    · have c3' : ((r : Int) + (top : Int)) / 4294967296 = 1 := by omega
      simp only [b25i, st25]
      simp -implicitDefEqProofs (disch := first | omega | (apply calm_by; decide)) only [List.cons_append, List.nil_append, Ev_seq, Ev_region, Ev_skip, Ev_exit, Ev_ret, Ev_block, Ev_cond, Ev_ghost, Ev_draw_calm, GoOn_cmp, GoOn_nil, GoOn_thn, GoOn_thn_e, GoOn_thn_r, GoOn_blk, GoOn_blk_e, GoOn_blk_r, onN_n, onN_e, onN_r, Round_n, Round_e, Round_r, EvC_t, EvC_f, EvW_t, EvW_f, EvR_some, EvN_some, EvO_cons, EvO_nil, wanted, exec, put, passed, opd,
    List.length_cons, List.length_nil, Nat.zero_add, Nat.reduceAdd, List.replicate_succ, List.replicate_zero, List.set_cons_zero, List.set_cons_succ, List.getD_cons_zero, List.getD_cons_succ, Option.map_some, Option.map_none, List.map_cons, List.map_nil,
    bin_add, bin_sub, bin_mul, bin_eql, bin_neq, bin_lss, bin_leq, bin_gtr, bin_geq, bin_quo_nat, bin_rem_nat, bin_or_hi, bin_shr32, bin_shl32, lenV_slice, lenV_ref, ne_eq, not_false_eq_true, beq_true, beq_false, Bool.not_true, Bool.not_false, wrap_i64, wrap_u64, dec_t, dec_f, ite_t, ite_f, ibeq_t, ibeq_f, ibne_t, ibne_f, index_slice, index_ref, slice_slice_hi, slice_ref_hi, Int.natCast_add, Int.cast_ofNat_Int, Int.add_sub_cancel, Int.toNat_natCast, Int.toNat_natCast_add_one, Int.reduceToNat, Nat.mul_one, load_dg, shareL_dg, adoptV, if_true, if_false, ite_true, ite_false, Bool.true_eq, Bool.false_eq_true, beq_self_eq_true, reduceCtorEq, reduceIte, Nat.reduceMul, Nat.reduceSub, Nat.reduceLT, Nat.reduceLeDiff, Nat.reduceEqDiff, c1', c1'', i3, hld, c3']
      obtain ⟨p1, p2, p3⟩ := hbrk (by omega)
      exact hK (g - 1) (r + top) _ p1 p2 p3 ⟨_, by simp only [st25, el, Int.natCast_add]; rfl⟩
end
end Av
namespace Av
open Go
set_option linter.unusedSimpArgs false
set_option linter.unusedVariables false
section
variable {T : Nat → Option Fun}
def b25d : ACode := (.region [⟨.move (.v 11), none, none⟩,
     ⟨.bin .sub (.t 0) (.c (.int .i64 1)), none, none⟩,
     ⟨.assign .asis (.t 1), (some 11), none⟩])
def b25c : ACode := (.seq (.seq (.region [⟨.move (.v 6), none, none⟩,
     ⟨.move (.v 11), none, none⟩,
     ⟨.move (.v 11), none, none⟩,
     ⟨.move (.v 4), none, none⟩,
     ⟨.bin .add (.t 2) (.t 3), none, none⟩,
     ⟨.bin .add (.t 4) (.c (.int .i64 1)), none, none⟩,
     ⟨.slice 1 (.t 0) (some (.t 1)) (some (.t 5)), none, none⟩,
     ⟨.move (.v 7), none, none⟩,
     ⟨.move (.v 13), none, none⟩,
     ⟨.call 28 [.asis, .asis, .asis] .share [(.t 6), (.t 7), (.t 8)], none, none⟩])
   (.cond (.t 9)
    (.seq (.region [⟨.move (.v 13), none, none⟩,
      ⟨.bin .sub (.t 0) (.c (.int .u64 1)), none, none⟩,
      ⟨.assign .asis (.t 1), (some 13), none⟩])
    (.region [⟨.move (.v 6), none, none⟩,
      ⟨.move (.v 11), none, none⟩,
      ⟨.move (.v 11), none, none⟩,
      ⟨.move (.v 4), none, none⟩,
      ⟨.bin .add (.t 2) (.t 3), none, none⟩,
      ⟨.bin .add (.t 4) (.c (.int .i64 1)), none, none⟩,
      ⟨.slice 1 (.t 0) (some (.t 1)) (some (.t 5)), none, none⟩,
      ⟨.move (.v 7), none, none⟩,
      ⟨.call 29 [.asis, .asis] .share [(.t 6), (.t 7)], none, none⟩]))
    .skip))
   (.region [⟨.move (.v 8), none, none⟩,
     ⟨.move (.v 11), none, none⟩,
     ⟨.move (.v 13), none, none⟩,
     ⟨.conv .u32 (.t 2), none, none⟩,
     ⟨.indexAddr 1 (.t 0) (.t 1), none, none⟩,
     ⟨.store true 1 (.t 4) (.t 3), none, none⟩]))

set_option maxHeartbeats 2000000 in
/-- The guess is taken away, and given back if it was one too many. -/
theorem after_ok (h : Has1 T) {Qf : AExit → St → Prop} (k s L j top next q g r : Nat) (P W S V Q : List Nat) (ts0 : List D)
    (hP : P.length = j) (hW : W.length = k + 3) (hV : V.length = k + 2) (hQ : Q.length = L + 1) (hS : (P ++ W ++ S).length = L + (k + 2) + 1)
    (dW : Dig W) (dV : Dig V) (hL : L + k < 2 ^ 39) (hj : j ≤ L) (g1 : g < 4294967296) (g2 : q ≤ g) (g3 : g ≤ q + 1) (hq1 : q * val V ≤ val W) (hq2 : val W < (q + 1) * val V)
    (hK : ∀ (s' : St), (∃ ts v13, s' = st25 k s L j top next V .undef v13 (.int .u64 r) ts [some ⟨dg (P ++ digsN (k + 3) (val W - q * val V) ++ S), false, 0, 0⟩, some ⟨dg (Q.set j q), false, 0, 0⟩] ((j : Int) - 1)) → Qf .normal s') :
    Ev T b25c (st25 k s L j top next V .undef (.int .u64 g) (.int .u64 r) ts0 [some ⟨dg (P ++ W ++ S), false, 0, 0⟩, some ⟨dg Q, false, 0, 0⟩] j) [.blk 1, .thn b25d] Qf := by
  have t1 := subScaled_ok h P W S V j (k + 2) g hP.symm hW hV dW dV g1 (by omega) (by omega)
  have i4 : ((j : Int) + ((k : Int) + 2) + 1).toNat - j = k + 2 + 1 := by omega
  have hst : ∀ (R : Option Row), storeV [R, some ⟨dg Q, false, 0, 0⟩] true 1 (.addr 1 [] 0 j) (.int .u32 (q : Nat)) = some [R, some ⟨dg (Q.set j q), false, 0, 0⟩] := fun R => by
    rw [store_dg _ 1 0 j Q q rfl (by omega) (by omega)]; rfl
  by_cases c : g = q
  · subst c
    have c2 : ¬ val W < g * val V := by omega
    rw [if_neg c2, decide_eq_false c2, Nat.add_zero] at t1
    simp only [b25c, b25d, st25]
    simp -implicitDefEqProofs (disch := first | omega | (apply calm_by; decide)) only [List.cons_append, List.nil_append, Ev_seq, Ev_region, Ev_skip, Ev_exit, Ev_ret, Ev_block, Ev_cond, Ev_ghost, Ev_draw_calm, GoOn_cmp, GoOn_nil, GoOn_thn, GoOn_thn_e, GoOn_thn_r, GoOn_blk, GoOn_blk_e, GoOn_blk_r, onN_n, onN_e, onN_r, Round_n, Round_e, Round_r, EvC_t, EvC_f, EvW_t, EvW_f, EvR_some, EvN_some, EvO_cons, EvO_nil, wanted, exec, put, passed, opd,
    List.length_cons, List.length_nil, Nat.zero_add, Nat.reduceAdd, List.replicate_succ, List.replicate_zero, List.set_cons_zero, List.set_cons_succ, List.getD_cons_zero, List.getD_cons_succ, Option.map_some, Option.map_none, List.map_cons, List.map_nil,
    bin_add, bin_sub, bin_mul, bin_eql, bin_neq, bin_lss, bin_leq, bin_gtr, bin_geq, bin_quo_nat, bin_rem_nat, bin_or_hi, bin_shr32, bin_shl32, lenV_slice, lenV_ref, ne_eq, not_false_eq_true, beq_true, beq_false, Bool.not_true, Bool.not_false, wrap_i64, wrap_u64, dec_t, dec_f, ite_t, ite_f, ibeq_t, ibeq_f, ibne_t, ibne_f, index_slice, index_ref, slice_slice_hi, slice_ref_hi, Int.natCast_add, Int.cast_ofNat_Int, Int.add_sub_cancel, Int.toNat_natCast, Int.toNat_natCast_add_one, Int.reduceToNat, Nat.mul_one, load_dg, shareL_dg, adoptV, if_true, if_false, ite_true, ite_false, Bool.true_eq, Bool.false_eq_true, beq_self_eq_true, reduceCtorEq, reduceIte, Nat.reduceMul, Nat.reduceSub, Nat.reduceLT, Nat.reduceLeDiff, Nat.reduceEqDiff, callV, takeArgs, takeV, lendArgs, lendV, lendVs, List.headD_cons, List.headD_nil, List.tail_cons, List.tail_nil, List.contains_cons, List.contains_nil, m_al, m_sl, m_ol, m_ll, m_la, m_ls, m_lo, Bool.or_false, Bool.or_true, Bool.false_or, Bool.true_or, idsL, ids, madeV, shareV, shareVs, adoptV, adoptVs, ownOnly, ownOnlyL, Bool.true_and, Bool.and_true, Bool.and_false, Bool.false_and, List.isEmpty_nil, List.isEmpty_cons, giveV, giveVs, Bool.not_false, Bool.not_true, reduceCtorEq, Bool.false_eq_true, if_false, if_true, norm, keepLive, compact, List.range_zero, List.range_succ, List.nil_append, List.cons_append, List.append_nil, List.contains_cons, List.contains_nil, Bool.or_false, Bool.or_true, Bool.false_or, Bool.true_or, Nat.reduceBEq, beq_self_eq_true, idsL, ids, addId, List.filter_cons, List.filter_nil, decide_true, decide_false, List.map_cons, List.map_nil, maskD, within, withinL, mapD, mapL, subRows, getRow, List.idxOf_cons, List.idxOf_nil, cond_true, cond_false, Bool.and_true, Bool.true_and, if_true, if_false, Bool.false_eq_true, List.length_cons, List.length_nil, Nat.zero_add, Nat.reduceAdd, Nat.reduceLT, List.getD_cons_zero, List.getD_cons_succ, List.set_cons_zero, List.set_cons_succ, reduceIte, reduceCtorEq, slice_ref_lohi, i4, t1, wrap_u32, hst, writeBack]
    exact hK _ ⟨_, _, rfl⟩
  · have c1 : g = q + 1 := by omega
    subst c1
    rw [if_pos hq2, decide_eq_true hq2] at t1
    have v0 := val_lt dW
    rw [hW] at v0
    have vV : val V < 4294967296 ^ (k + 2 + 1) := by
      have := val_lt dV
      rw [hV] at this
      rw [Nat.pow_succ]; omega
    have q3 : (q + 1) * val V = q * val V + val V := by rw [Nat.add_mul, Nat.one_mul]
    have v1 : val W + 4294967296 ^ (k + 3) - (q + 1) * val V < 4294967296 ^ (k + 3) := by
      show _ < 4294967296 ^ (k + 2 + 1)
      show val W + 4294967296 ^ (k + 2 + 1) - _ < _
      omega
    have v2 := val_digsN _ _ v1
    have t2 := addBack_ok h P (digsN (k + 3) (val W + 4294967296 ^ (k + 3) - (q + 1) * val V)) S V j (k + 2) hP.symm (digsN_length _ _) hV (dig_digsN _ _) dV (by omega) (by omega)
    have v3 : (val W + 4294967296 ^ (k + 3) - (q + 1) * val V + val V) % 4294967296 ^ (k + 2 + 1) = val W - q * val V := by
      have hw : val W - q * val V < 4294967296 ^ (k + 2 + 1) := Nat.lt_of_le_of_lt (Nat.sub_le _ _) v0
      have hx : val W + 4294967296 ^ (k + 3) - (q + 1) * val V + val V = val W - q * val V + 4294967296 ^ (k + 2 + 1) := by
        rw [q3]
        have v0' : val W < 4294967296 ^ (k + 2 + 1) := v0
        rw [q3] at hq2
        show val W + 4294967296 ^ (k + 2 + 1) - _ + _ = _
        clear v1 v2 t1 t2 hw v0
        generalize 4294967296 ^ (k + 2 + 1) = e at *
        generalize q * val V = a at *
        generalize val V = b at *
        generalize val W = c at *
        omega
      rw [hx, Nat.add_mod_right, Nat.mod_eq_of_lt hw]
    rw [v2, v3] at t2
    simp only [Int.natCast_add, Int.cast_ofNat_Int] at t1
    simp only [b25c, b25d, st25]
    simp -implicitDefEqProofs (disch := first | omega | (apply calm_by; decide)) only [List.cons_append, List.nil_append, Ev_seq, Ev_region, Ev_skip, Ev_exit, Ev_ret, Ev_block, Ev_cond, Ev_ghost, Ev_draw_calm, GoOn_cmp, GoOn_nil, GoOn_thn, GoOn_thn_e, GoOn_thn_r, GoOn_blk, GoOn_blk_e, GoOn_blk_r, onN_n, onN_e, onN_r, Round_n, Round_e, Round_r, EvC_t, EvC_f, EvW_t, EvW_f, EvR_some, EvN_some, EvO_cons, EvO_nil, wanted, exec, put, passed, opd,
    List.length_cons, List.length_nil, Nat.zero_add, Nat.reduceAdd, List.replicate_succ, List.replicate_zero, List.set_cons_zero, List.set_cons_succ, List.getD_cons_zero, List.getD_cons_succ, Option.map_some, Option.map_none, List.map_cons, List.map_nil,
    bin_add, bin_sub, bin_mul, bin_eql, bin_neq, bin_lss, bin_leq, bin_gtr, bin_geq, bin_quo_nat, bin_rem_nat, bin_or_hi, bin_shr32, bin_shl32, lenV_slice, lenV_ref, ne_eq, not_false_eq_true, beq_true, beq_false, Bool.not_true, Bool.not_false, wrap_i64, wrap_u64, dec_t, dec_f, ite_t, ite_f, ibeq_t, ibeq_f, ibne_t, ibne_f, index_slice, index_ref, slice_slice_hi, slice_ref_hi, Int.natCast_add, Int.cast_ofNat_Int, Int.add_sub_cancel, Int.toNat_natCast, Int.toNat_natCast_add_one, Int.reduceToNat, Nat.mul_one, load_dg, shareL_dg, adoptV, if_true, if_false, ite_true, ite_false, Bool.true_eq, Bool.false_eq_true, beq_self_eq_true, reduceCtorEq, reduceIte, Nat.reduceMul, Nat.reduceSub, Nat.reduceLT, Nat.reduceLeDiff, Nat.reduceEqDiff, callV, takeArgs, takeV, lendArgs, lendV, lendVs, List.headD_cons, List.headD_nil, List.tail_cons, List.tail_nil, List.contains_cons, List.contains_nil, m_al, m_sl, m_ol, m_ll, m_la, m_ls, m_lo, Bool.or_false, Bool.or_true, Bool.false_or, Bool.true_or, idsL, ids, madeV, shareV, shareVs, adoptV, adoptVs, ownOnly, ownOnlyL, Bool.true_and, Bool.and_true, Bool.and_false, Bool.false_and, List.isEmpty_nil, List.isEmpty_cons, giveV, giveVs, Bool.not_false, Bool.not_true, reduceCtorEq, Bool.false_eq_true, if_false, if_true, norm, keepLive, compact, List.range_zero, List.range_succ, List.nil_append, List.cons_append, List.append_nil, List.contains_cons, List.contains_nil, Bool.or_false, Bool.or_true, Bool.false_or, Bool.true_or, Nat.reduceBEq, beq_self_eq_true, idsL, ids, addId, List.filter_cons, List.filter_nil, decide_true, decide_false, List.map_cons, List.map_nil, maskD, within, withinL, mapD, mapL, subRows, getRow, List.idxOf_cons, List.idxOf_nil, cond_true, cond_false, Bool.and_true, Bool.true_and, if_true, if_false, Bool.false_eq_true, List.length_cons, List.length_nil, Nat.zero_add, Nat.reduceAdd, Nat.reduceLT, List.getD_cons_zero, List.getD_cons_succ, List.set_cons_zero, List.set_cons_succ, reduceIte, reduceCtorEq, slice_ref_lohi, i4, t1, t2, wrap_u32, hst, writeBack]
    exact hK _ ⟨_, _, rfl⟩
end
end Av
namespace Av
open Go
set_option linter.unusedSimpArgs false
set_option linter.unusedVariables false
section
variable {T : Nat → Option Fun}
theorem guess_facts {W V : List Nat} {k : Nat} (dW : Dig W) (dV : Dig V) (hW : W.length = k + 3) (hV : V.length = k + 2) (htg : 2147483648 ≤ V.getD (k + 1) 0) (hWb : val W < 4294967296 * val V) (hV1 : 0 < val V) :
    ∃ (top next w2 w1 w0 two q : Nat), V.getD (k + 1) 0 = top ∧ V.getD k 0 = next ∧ W.getD (k + 2) 0 = w2 ∧ W.getD (k + 1) 0 = w1 ∧ W.getD k 0 = w0 ∧ two = w2 * 4294967296 + w1 ∧ q = val W / val V ∧
    top < 4294967296 ∧ next < 4294967296 ∧ w2 < 4294967296 ∧ w1 < 4294967296 ∧ w0 < 4294967296 ∧ two < 4294967296 * top + 4294967296 ∧ q < 4294967296 ∧ q ≤ two / top ∧
    (∀ g, two * 4294967296 + w0 < g * (top * 4294967296 + next) → q < g) ∧ (∀ g, g < 4294967296 → g * (top * 4294967296 + next) ≤ two * 4294967296 + w0 → g ≤ q + 1) := by
  have gw2 := dW.get (k + 2)
  have gw1 := dW.get (k + 1)
  have gw0 := dW.get k
  have gt := dV.get (k + 1)
  have gn := dV.get k
  have e3 := val_top3 W k hW
  have e2 := val_top2 V k hV
  have b3 := val_lt (dW.take k)
  have b2 := val_lt (dV.take k)
  rw [List.length_take, Nat.min_eq_left (by omega)] at b3 b2
  have hqV := Nat.div_mul_le_self (val W) (val V)
  have hqV2 := Nat.lt_div_mul_add hV1 (a := val W)
  have hqB : val W / val V < 4294967296 := Nat.div_lt_of_lt_mul (by rw [Nat.mul_comm]; exact hWb)
  refine ⟨_, _, _, _, _, _, _, rfl, rfl, rfl, rfl, rfl, rfl, rfl, ?_⟩
  generalize V.getD (k + 1) 0 = top at *
  generalize V.getD k 0 = next at *
  generalize W.getD (k + 2) 0 = w2 at *
  generalize W.getD (k + 1) 0 = w1 at *
  generalize W.getD k 0 = w0 at *
  generalize val W / val V = q at *
  have hw2t : w2 ≤ top := by
    rcases Nat.lt_or_ge top w2 with hc | hc
    · exfalso
      have q1 : 4294967296 ^ k * (((top + 1) * 4294967296 + 0) * 4294967296 + 0) ≤ 4294967296 ^ k * ((w2 * 4294967296 + w1) * 4294967296 + w0) := Nat.mul_le_mul_left _ (by omega)
      have q2 : 4294967296 ^ k * (top * 4294967296 + next + 1) ≤ 4294967296 ^ k * ((top + 1) * 4294967296) := Nat.mul_le_mul_left _ (by omega)
      have q3 : 4294967296 ^ k * (((top + 1) * 4294967296 + 0) * 4294967296 + 0) = 4294967296 * (4294967296 ^ k * ((top + 1) * 4294967296)) := by
        rw [Nat.mul_left_comm]; congr 1; omega
      rw [Nat.mul_add] at q2
      omega
    · exact hc
  obtain ⟨two, hTT⟩ : ∃ t, t = w2 * 4294967296 + w1 := ⟨_, rfl⟩
  rw [← hTT] at e3 ⊢
  rw [e3, e2] at hqV
  have hqV3 : val (W.take k) + 4294967296 ^ k * (two * 4294967296 + w0) < (q + 1) * (val (V.take k) + 4294967296 ^ k * (top * 4294967296 + next)) := by rw [← e3, ← e2, Nat.add_mul, Nat.one_mul]; exact hqV2
  refine ⟨gt, gn, gw2, gw1, gw0, by omega, hqB, knuth_first (P := 4294967296 ^ k) (Vl := val (V.take k)) (Wl := val (W.take k)) (next := next) (w0 := w0) (by omega) gw0 b3 hqV, ?_, ?_⟩
  · intro g hg
    exact knuth_lo hqV b3 hg
  · intro g hg1 hg2
    exact knuth_hi (b := 4294967296) hg2 (by omega) (by omega) b2 hqV3

set_option maxHeartbeats 2000000 in
/-- One round of the long division. -/
theorem round_ok (h : Has1 T) {Qf : AExit → St → Prop} (k s L j : Nat) (P W S V Q : List Nat)
    (hP : P.length = j) (hW : W.length = k + 3) (hV : V.length = k + 2) (hQ : Q.length = L + 1) (hS : (P ++ W ++ S).length = L + (k + 2) + 1)
    (dW : Dig W) (dV : Dig V) (hL : L + k < 2 ^ 39) (hj : j ≤ L) (htg : 2147483648 ≤ V.getD (k + 1) 0) (hWb : val W < 4294967296 * val V) (hV1 : 0 < val V)
    (hK : ∀ (s' : St), (∃ ts v13 v14, s' = st25 k s L j (V.getD (k + 1) 0) (V.getD k 0) V .undef v13 v14 ts [some ⟨dg (P ++ digsN (k + 3) (val W - val W / val V * val V) ++ S), false, 0, 0⟩, some ⟨dg (Q.set j (val W / val V)), false, 0, 0⟩] ((j : Int) - 1)) → Qf .normal s') :
    Ev T b25 (st25 k s L j (V.getD (k + 1) 0) (V.getD k 0) V .undef .undef .undef [] [some ⟨dg (P ++ W ++ S), false, 0, 0⟩, some ⟨dg Q, false, 0, 0⟩] j) [] Qf := by
  have hq1 := Nat.div_mul_le_self (val W) (val V)
  have hq2 := Nat.lt_div_mul_add hV1 (a := val W)
  rw [show val W / val V * val V + val V = (val W / val V + 1) * val V by rw [Nat.add_mul, Nat.one_mul]] at hq2
  obtain ⟨top, next, w2, w1, w0, two, q, htop, hnext, hw2, hw1, hw0, htwo, hq, gt, gn, gw2, gw1, gw0, htwoB, hqB, hfirst, F1, F2⟩ := guess_facts dW dV hW hV htg hWb hV1
  rw [← hq] at hq1 hq2 hK
  rw [htop] at htg
  rw [htop, hnext] at hK ⊢
  have hldU : ∀ i, i < k + 3 → loadV [some ⟨dg (P ++ W ++ S), false, 0, 0⟩, some ⟨dg Q, false, 0, 0⟩] false 1 (.addr 0 [] 0 (j + i)) = some (.int .u32 (W.getD i 0 : Nat)) := fun i hi => by
    rw [load_row _ 0 0 (j + i) (P ++ W ++ S) false 0 0 rfl (by simp; omega), ← hP, win_get P W S i (by omega)]
  have hld2 := hldU (k + 2) (by omega)
  have hld1 := hldU (k + 1) (by omega)
  have hld0 := hldU k (by omega)
  rw [hw2] at hld2
  rw [hw1] at hld1
  rw [hw0] at hld0
  have i1 : ((j : Int) + ((k : Int) + 2)).toNat = j + (k + 2) := by omega
  have i2 : ((j : Int) + ((k : Int) + 2) - 1).toNat = j + (k + 1) := by omega
  have htwoZ : ((w2 : Nat) : Int) * 4294967296 + ((w1 : Nat) : Int) = ((two : Nat) : Int) := by omega
  have hdm := Nat.div_add_mod two top
  have hmod := Nat.mod_lt two (show 0 < top by omega)
  have hquo := bin_quo_nat .u64 two top (by omega) (.inr ⟨rfl, by omega⟩) rfl
  have hrem := bin_rem_nat .u64 two top (by omega)
  obtain ⟨g0, hg0⟩ : ∃ g0, g0 = two / top := ⟨_, rfl⟩
  obtain ⟨r0', hr0⟩ : ∃ r0', r0' = two % top := ⟨_, rfl⟩
  rw [← hg0] at hfirst hdm hquo
  rw [← hr0] at hdm hmod hrem
  have fin := guess_ok (T := T) (Qf := Qf) (ks := [.thn b25c, .blk 1, .thn b25d]) k s L j top next w0 two q g0 r0' V (.int .u64 two) (.undef :: .undef :: .undef :: .undef :: .undef :: .undef :: .undef :: [.undef]) ⟨_, _, rfl⟩ (by omega) hj gt htg gn gw0 htwoB hqB hld0 F1 F2 (by rw [Nat.mul_comm]; exact hdm) (by omega) hfirst (by
    rintro g r s' g1 g2 g3 ⟨ts, rfl⟩
    exact after_ok h k s L j top next q g r P W S V Q ts hP hW hV hQ hS dW dV hL hj g1 g2 g3 hq1 hq2 (fun s' ⟨ts, v13, e⟩ => hK s' ⟨ts, v13, _, e⟩))
  clear F1 F2 hfirst hqB
  have eb : b25 = .seq (.seq (.region [⟨.move (.v 11), none, none⟩,
     ⟨.bin .geq (.t 0) (.c (.int .i64 0)), none, none⟩])
   (.cond (.t 1)
    .skip
    (.exit 0)))
   (.seq (.block 1 (.seq (.draw [⟨.move (.v 6), none, none⟩,
     ⟨.move (.v 11), none, none⟩,
     ⟨.move (.v 4), none, none⟩,
     ⟨.bin .add (.t 1) (.t 2), none, none⟩,
     ⟨.indexAddr 1 (.t 0) (.t 3), none, none⟩,
     ⟨.load .asis false 1 (.t 4), none, none⟩,
     ⟨.conv .u64 (.t 5), none, none⟩,
     ⟨.bin .shl (.t 6) (.c (.int .u64 32)), none, none⟩,
     ⟨.move (.v 6), none, none⟩,
     ⟨.move (.v 11), none, none⟩,
     ⟨.move (.v 4), none, none⟩,
     ⟨.bin .add (.t 9) (.t 10), none, none⟩,
     ⟨.bin .sub (.t 11) (.c (.int .i64 1)), none, none⟩,
     ⟨.indexAddr 1 (.t 8) (.t 12), none, none⟩,
     ⟨.load .asis false 1 (.t 13), none, none⟩,
     ⟨.conv .u64 (.t 14), none, none⟩,
     ⟨.bin .or (.t 7) (.t 15), none, none⟩,
     ⟨.assign .asis (.t 16), (some 12), none⟩] [] [0, 0, 0, 0, 0, 0, 0, 0, 0, 0, 0, 0, 0, 0, 0, 0, 0, 0])
   (.seq (.draw [⟨.move (.v 12), none, none⟩,
     ⟨.move (.v 9), none, none⟩,
     ⟨.bin .quo (.t 0) (.t 1), none, none⟩,
     ⟨.move (.v 12), none, none⟩,
     ⟨.move (.v 9), none, none⟩,
     ⟨.bin .rem (.t 3) (.t 4), none, none⟩,
     ⟨.assign .asis (.t 2), (some 13), none⟩,
     ⟨.assign .asis (.t 5), (some 14), none⟩] [] [0, 0, 0, 0, 0, 0, 0, 0])
   (.seq (.block 2 (.loop [4, 5, 6, 7, 8, 9, 10, 11, 13, 14] b25i)) b25c)))) b25d) := rfl
  rw [eb]
  simp only [st25] at fin ⊢
  simp -implicitDefEqProofs (disch := first | omega | (apply calm_by; decide)) only [List.cons_append, List.nil_append, Ev_seq, Ev_region, Ev_skip, Ev_exit, Ev_ret, Ev_block, Ev_cond, Ev_ghost, Ev_draw_calm, GoOn_cmp, GoOn_nil, GoOn_thn, GoOn_thn_e, GoOn_thn_r, GoOn_blk, GoOn_blk_e, GoOn_blk_r, onN_n, onN_e, onN_r, Round_n, Round_e, Round_r, EvC_t, EvC_f, EvW_t, EvW_f, EvR_some, EvN_some, EvO_cons, EvO_nil, wanted, exec, put, passed, opd,
    List.length_cons, List.length_nil, Nat.zero_add, Nat.reduceAdd, List.replicate_succ, List.replicate_zero, List.set_cons_zero, List.set_cons_succ, List.getD_cons_zero, List.getD_cons_succ, Option.map_some, Option.map_none, List.map_cons, List.map_nil,
    bin_add, bin_sub, bin_mul, bin_eql, bin_neq, bin_lss, bin_leq, bin_gtr, bin_geq, bin_quo_nat, bin_rem_nat, bin_or_hi, bin_shr32, bin_shl32, lenV_slice, lenV_ref, ne_eq, not_false_eq_true, beq_true, beq_false, Bool.not_true, Bool.not_false, wrap_i64, wrap_u64, dec_t, dec_f, ite_t, ite_f, ibeq_t, ibeq_f, ibne_t, ibne_f, index_slice, index_ref, slice_slice_hi, slice_ref_hi, Int.natCast_add, Int.cast_ofNat_Int, Int.add_sub_cancel, Int.toNat_natCast, Int.toNat_natCast_add_one, Int.reduceToNat, Nat.mul_one, load_dg, shareL_dg, adoptV, if_true, if_false, ite_true, ite_false, Bool.true_eq, Bool.false_eq_true, beq_self_eq_true, reduceCtorEq, reduceIte, Nat.reduceMul, Nat.reduceSub, Nat.reduceLT, Nat.reduceLeDiff, Nat.reduceEqDiff, norm, keepLive, compact, List.range_zero, List.range_succ, List.nil_append, List.cons_append, List.append_nil, List.contains_cons, List.contains_nil, Bool.or_false, Bool.or_true, Bool.false_or, Bool.true_or, Nat.reduceBEq, beq_self_eq_true, idsL, ids, addId, List.filter_cons, List.filter_nil, decide_true, decide_false, List.map_cons, List.map_nil, maskD, within, withinL, mapD, mapL, subRows, getRow, List.idxOf_cons, List.idxOf_nil, cond_true, cond_false, Bool.and_true, Bool.true_and, if_true, if_false, Bool.false_eq_true, List.length_cons, List.length_nil, Nat.zero_add, Nat.reduceAdd, Nat.reduceLT, List.getD_cons_zero, List.getD_cons_succ, List.set_cons_zero, List.set_cons_succ, reduceIte, reduceCtorEq, i1, i2, hld2, hld1, htwoZ, hquo, hrem]
  exact fin
end
end Av
namespace Av
open Go
set_option linter.unusedSimpArgs false
set_option linter.unusedVariables false
section
variable {T : Nat → Option Fun}

theorem top_ge {L : List Nat} {m c : Nat} (hd : Dig L) (hl : L.length = m + 1) (h : c * 4294967296 ^ m ≤ val L) : c ≤ L.getD m 0 := by
  have h1 := val_take' L m
  rw [List.take_of_length_le (by omega)] at h1
  have h2 := val_lt (hd.take m)
  rw [List.length_take, Nat.min_eq_left (by omega)] at h2
  rcases Nat.lt_or_ge (L.getD m 0) c with h3 | h3
  · exfalso
    have h4 : (L.getD m 0 + 1) * 4294967296 ^ m ≤ c * 4294967296 ^ m := Nat.mul_le_mul_right _ h3
    rw [Nat.add_mul, Nat.one_mul, Nat.mul_comm (L.getD m 0)] at h4
    omega
  · exact h3

/-- The divisor, shifted so that its highest bit is set. -/
theorem norm_div {B : List Nat} {k : Nat} (dB : Dig B) (hl : B.length = k + 2) (ht : B.getD (k + 1) 0 ≠ 0) :
    val B * 2 ^ (32 - bl (B.getD (k + 1) 0)) < 4294967296 ^ (k + 2) ∧ 2147483648 * 4294967296 ^ (k + 1) ≤ val B * 2 ^ (32 - bl (B.getD (k + 1) 0)) := by
  have g := dB.get (k + 1)
  obtain ⟨q0, q1, q2⟩ := bl_spec ht
  obtain ⟨r0, r1, r2⟩ := shift_norm ht g
  have b : bl (B.getD (k + 1) 0) ≤ 32 := bl_le (n := 32) (by omega)
  have h1 := val_take' B (k + 1)
  rw [List.take_of_length_le (show B.length ≤ k + 1 + 1 by omega)] at h1
  have h2 := val_lt (dB.take (k + 1))
  rw [List.length_take, Nat.min_eq_left (by omega)] at h2
  have e32 : 2 ^ bl (B.getD (k + 1) 0) * 2 ^ (32 - bl (B.getD (k + 1) 0)) = 4294967296 := by
    rw [← Nat.pow_add, show bl (B.getD (k + 1) 0) + (32 - bl (B.getD (k + 1) 0)) = 32 by omega]
  generalize 2 ^ (32 - bl (B.getD (k + 1) 0)) = p at *
  generalize B.getD (k + 1) 0 = t at *
  generalize bl t = c at *
  have h3 : (t + 1) * p ≤ 4294967296 := by
    rw [← e32]
    exact Nat.mul_le_mul_right _ q2
  have hp : 0 < p := by
    rcases Nat.eq_zero_or_pos p with h | h
    · subst h; simp at r1
    · exact h
  constructor
  · have h4 : val B < (t + 1) * 4294967296 ^ (k + 1) := by rw [Nat.add_mul, Nat.one_mul, Nat.mul_comm t]; omega
    have h5 : val B * p < (t + 1) * 4294967296 ^ (k + 1) * p := Nat.mul_lt_mul_of_pos_right h4 hp
    have h6 : (t + 1) * 4294967296 ^ (k + 1) * p = (t + 1) * p * 4294967296 ^ (k + 1) := by rw [Nat.mul_assoc, Nat.mul_comm (4294967296 ^ (k + 1)), Nat.mul_assoc]
    have h7 : (t + 1) * p * 4294967296 ^ (k + 1) ≤ 4294967296 * 4294967296 ^ (k + 1) := Nat.mul_le_mul_right _ h3
    rw [show k + 2 = k + 1 + 1 from rfl, Nat.pow_succ, Nat.mul_comm (4294967296 ^ (k + 1)) 4294967296]
    omega
  · have h4 : t * 4294967296 ^ (k + 1) ≤ val B := by rw [Nat.mul_comm t]; omega
    have h5 : t * 4294967296 ^ (k + 1) * p ≤ val B * p := Nat.mul_le_mul_right _ h4
    have h6 : t * 4294967296 ^ (k + 1) * p = t * p * 4294967296 ^ (k + 1) := by rw [Nat.mul_assoc, Nat.mul_comm (4294967296 ^ (k + 1)), Nat.mul_assoc]
    have h7 : 2147483648 * 4294967296 ^ (k + 1) ≤ t * p * 4294967296 ^ (k + 1) := Nat.mul_le_mul_right _ r1
    omega


theorem round_val {P W S D V Q : List Nat} {j q X : Nat} (hP : P.length = j) (hD : D.length = W.length) (hQ : j < Q.length) (hv : val D + q * val V = val W)
    (h : val (P ++ W ++ S) + val V * (4294967296 ^ (j + 1) * val (Q.drop (j + 1))) = X) : val (P ++ D ++ S) + val V * (4294967296 ^ j * val ((Q.set j q).drop j)) = X := by
  have e : (Q.set j q).drop j = q :: Q.drop (j + 1) := by
    rw [drop_get _ _ (by simp; omega), getD_set_self hQ, drop_set_ne (by omega)]
  rw [e, ← h]
  simp only [List.append_assoc, val_append, val, hP, hD]
  have h1 : val V * (4294967296 ^ j * (q + 4294967296 * val (Q.drop (j + 1)))) = 4294967296 ^ j * (q * val V) + val V * (4294967296 ^ (j + 1) * val (Q.drop (j + 1))) := by
    rw [Nat.pow_succ, Nat.mul_assoc, Nat.mul_add, Nat.mul_add]
    congr 1
    rw [Nat.mul_comm, Nat.mul_assoc]
  rw [h1, ← hv, Nat.mul_add, Nat.mul_add, Nat.mul_add]
  generalize val V * (4294967296 ^ (j + 1) * val (Q.drop (j + 1))) = z
  omega

set_option maxHeartbeats 2000000 in
theorem outer_ok (h : Has1 T) {Qf : AExit → St → Prop} {ks : List Todo} (k s L top next : Nat) (U0 Q0 V : List Nat) (st : St) (htop : V.getD (k + 1) 0 = top) (hnext : V.getD k 0 = next)
    (hV : V.length = k + 2) (hQ0 : Q0.length = L + 1) (hU0 : U0.length = L + (k + 2) + 1) (dU0 : Dig U0) (dQ0 : Dig Q0) (dV : Dig V) (hL : L + k < 2 ^ 39) (htg : 2147483648 ≤ top) (hV1 : 0 < val V) (h0 : val (U0.drop (L + 1)) < val V)
    (hst : norm [4, 5, 6, 7, 8, 9, 10, 11] st = st25 k s L 0 top next V .undef .undef .undef [] [some ⟨dg U0, false, 0, 0⟩, some ⟨dg Q0, false, 0, 0⟩] L)
    (hK : ∀ (s' : St), (∃ ts U Q, U.length = L + (k + 2) + 1 ∧ Q.length = L + 1 ∧ Dig U ∧ Dig Q ∧ val U + val V * val Q = val U0 ∧ val U < val V ∧ s' = st25 k s L 0 top next V .undef .undef .undef ts [some ⟨dg U, false, 0, 0⟩, some ⟨dg Q, false, 0, 0⟩] (-1)) → GoOn T Qf ks .normal s') :
    Ev T (.loop [4, 5, 6, 7, 8, 9, 10, 11] b25) st (.blk 0 :: ks) Qf := by
  refine Ev_loop (fun m st => ∃ (U Q : List Nat), m ≤ L + 1 ∧ U.length = L + (k + 2) + 1 ∧ Q.length = L + 1 ∧ Dig U ∧ Dig Q ∧ val U + val V * (4294967296 ^ m * val (Q.drop m)) = val U0 ∧ val (U.drop m) < val V ∧
    st = st25 k s L 0 top next V .undef .undef .undef [] [some ⟨dg U, false, 0, 0⟩, some ⟨dg Q, false, 0, 0⟩] ((m : Int) - 1))
    (L + 1) ⟨U0, Q0, by omega, hU0, hQ0, dU0, dQ0, ?_, h0, ?_⟩ ?_
  · rw [List.drop_of_length_le (by omega), val, Nat.mul_zero, Nat.mul_zero, Nat.add_zero]
  · rw [hst]; simp only [Int.natCast_add, Int.cast_ofNat_Int, Int.add_sub_cancel]
  clear hst st
  rintro m st ⟨U, Q, hm, hU, hQ, dU, dQ, heq, hlt, rfl⟩
  cases m with
  | zero =>
    have e1 : val U + val V * val Q = val U0 := by rw [← heq, Nat.pow_zero, Nat.one_mul, List.drop_zero]
    have e2 : val U < val V := by rw [List.drop_zero] at hlt; exact hlt
    have i1 : ((0 : Nat) : Int) - 1 = -1 := by omega
    rw [i1]
    have fin : ∀ ts, _ := fun ts => hK _ ⟨ts, U, Q, hU, hQ, dU, dQ, e1, e2, rfl⟩
    simp only [b25, st25] at fin ⊢
    simp -implicitDefEqProofs (disch := first | omega | (apply calm_by; decide)) only [List.cons_append, List.nil_append, Ev_seq, Ev_region, Ev_skip, Ev_exit, Ev_ret, Ev_block, Ev_cond, Ev_ghost, Ev_draw_calm, GoOn_cmp, GoOn_nil, GoOn_thn, GoOn_thn_e, GoOn_thn_r, GoOn_blk, GoOn_blk_e, GoOn_blk_r, onN_n, onN_e, onN_r, Round_n, Round_e, Round_r, EvC_t, EvC_f, EvW_t, EvW_f, EvR_some, EvN_some, EvO_cons, EvO_nil, wanted, exec, put, passed, opd,
    List.length_cons, List.length_nil, Nat.zero_add, Nat.reduceAdd, List.replicate_succ, List.replicate_zero, List.set_cons_zero, List.set_cons_succ, List.getD_cons_zero, List.getD_cons_succ, Option.map_some, Option.map_none, List.map_cons, List.map_nil,
    bin_add, bin_sub, bin_mul, bin_eql, bin_neq, bin_lss, bin_leq, bin_gtr, bin_geq, bin_quo_nat, bin_rem_nat, bin_or_hi, bin_shr32, bin_shl32, lenV_slice, lenV_ref, ne_eq, not_false_eq_true, beq_true, beq_false, Bool.not_true, Bool.not_false, wrap_i64, wrap_u64, dec_t, dec_f, ite_t, ite_f, ibeq_t, ibeq_f, ibne_t, ibne_f, index_slice, index_ref, slice_slice_hi, slice_ref_hi, Int.natCast_add, Int.cast_ofNat_Int, Int.add_sub_cancel, Int.toNat_natCast, Int.toNat_natCast_add_one, Int.reduceToNat, Nat.mul_one, load_dg, shareL_dg, adoptV, if_true, if_false, ite_true, ite_false, Bool.true_eq, Bool.false_eq_true, beq_self_eq_true, reduceCtorEq, reduceIte, Nat.reduceMul, Nat.reduceSub, Nat.reduceLT, Nat.reduceLeDiff, Nat.reduceEqDiff]
    exact fin _
  | succ j =>
    have hUj : val (U.drop j) = U.getD j 0 + 4294967296 * val (U.drop (j + 1)) := by rw [drop_get U j (by omega), val]
    have gUj := dU.get j
    obtain ⟨P, W, S, rfl, hP, hW⟩ : ∃ P W S, U = P ++ W ++ S ∧ P.length = j ∧ W.length = k + 3 :=
      ⟨U.take j, (U.drop j).take (k + 3), (U.drop j).drop (k + 3), by rw [List.append_assoc, List.take_append_drop, List.take_append_drop], by simp; omega, by simp; omega⟩
    have dW : Dig W := fun x hx => dU x (by simp [hx])
    have dP : Dig P := fun x hx => dU x (by simp [hx])
    have dS : Dig S := fun x hx => dU x (by simp [hx])
    have hUd : (P ++ W ++ S).drop j = W ++ S := by rw [List.append_assoc, List.drop_left' hP]
    have hWS : val ((P ++ W ++ S).drop j) = val W + 4294967296 ^ (k + 3) * val S := by rw [hUd, val_append, hW]
    have hVl := val_lt dV
    rw [hV] at hVl
    have hb1 : val ((P ++ W ++ S).drop j) < 4294967296 * val V := by omega
    have hS0 : val S = 0 := by
      rcases Nat.eq_zero_or_pos (val S) with h0 | h0
      · exact h0
      · have q1 := Nat.mul_le_mul_left (4294967296 ^ (k + 3)) (show 1 ≤ val S from h0)
        have q2 : 4294967296 ^ (k + 3) = 4294967296 ^ (k + 2) * 4294967296 := Nat.pow_succ _ _
        omega
    have hWv : val ((P ++ W ++ S).drop j) = val W := by rw [hWS, hS0, Nat.mul_zero, Nat.add_zero]
    have hWb : val W < 4294967296 * val V := by omega
    have hdm := Nat.div_add_mod (val W) (val V)
    have hml := Nat.mod_lt (val W) hV1
    have hqB : val W / val V < 4294967296 := Nat.div_lt_of_lt_mul (by rw [Nat.mul_comm]; exact hWb)
    have hsub : val W - val W / val V * val V = val W % val V := by rw [Nat.mul_comm]; omega
    have hWl := val_lt dW
    rw [hW] at hWl
    have hDv := val_digsN (k + 3) (val W - val W / val V * val V) (Nat.lt_of_le_of_lt (Nat.sub_le _ _) hWl)
    have hDl := digsN_length (k + 3) (val W - val W / val V * val V)
    have dD := dig_digsN (k + 3) (val W - val W / val V * val V)
    have i1 : ((j + 1 : Nat) : Int) - 1 = ((j : Nat) : Int) := by omega
    rw [i1]
    subst htop hnext
    refine round_ok h k s L j P W S V Q hP hW hV hQ hU dW dV hL (by omega) htg hWb hV1 ?_
    rintro s' ⟨ts, v13, v14, rfl⟩
    rw [Round_n]
    rw [hsub] at hDv hDl dD ⊢
    generalize digsN (k + 3) (val W % val V) = D at *
    generalize val W / val V = q at *
    refine ⟨j, Nat.lt_succ_self j, P ++ D ++ S, Q.set j q, by omega, by simp only [List.length_append] at hU ⊢; omega, by rw [List.length_set]; exact hQ, ?_, dQ.set _ _ hqB, ?_, ?_, ?_⟩
    · intro x hx
      simp only [List.mem_append] at hx
      rcases hx with (hx | hx) | hx
      · exact dP x hx
      · exact dD x hx
      · exact dS x hx
    · exact round_val (W := W) hP (by omega) (by omega) (by rw [hDv, Nat.mul_comm]; omega) heq
    · rw [List.append_assoc, List.drop_left' hP, val_append, hS0, Nat.mul_zero, Nat.add_zero, hDv]
      exact hml
    · simp only [st25, norm, keepLive, compact, List.range_zero, List.range_succ, List.nil_append, List.cons_append, List.append_nil, List.contains_cons, List.contains_nil, Bool.or_false, Bool.or_true, Bool.false_or, Bool.true_or, Nat.reduceBEq, beq_self_eq_true, idsL, ids, addId, List.filter_cons, List.filter_nil, decide_true, decide_false, List.map_cons, List.map_nil, maskD, within, withinL, mapD, mapL, subRows, getRow, List.idxOf_cons, List.idxOf_nil, cond_true, cond_false, Bool.and_true, Bool.true_and, if_true, if_false, Bool.false_eq_true, List.length_cons, List.length_nil, Nat.zero_add, Nat.reduceAdd, Nat.reduceLT, List.getD_cons_zero, List.getD_cons_succ, List.set_cons_zero, List.set_cons_succ, reduceIte, reduceCtorEq]
end
end Av
namespace Av
open Go

abbrev Cnt := Nat → Nat
abbrev FZ := Nat → Nat → Prop
/-- Where rows lie ('at': no word · it has no block · block and first cell), and the versions that they bear. -/
structure Loc where
  at_ : Nat → List Nat → Nat → Option (Option (Nat × Nat))
  cur : Nat → Nat
  ok : Nat → Prop
def L0 : Loc := ⟨fun _ _ _ => none, fun _ => 0, fun _ => False⟩
/-- L' says no more than L of the refs that were there under L. -/
def LocLe (L L' : Loc) : Prop := (∀ r, L.ok r → L'.ok r) ∧ (∀ r, L.ok r → L.cur r ≤ L'.cur r) ∧ ∀ r p n l, L.ok r → (p ≠ [] → n ≤ L.cur r) → L'.at_ r p n = some l → L.at_ r p n = some l
theorem LocLe.refl (L : Loc) : LocLe L L := ⟨fun _ h => h, fun _ _ => Nat.le_refl _, fun _ _ _ _ _ _ h => h⟩
theorem LocLe.trans {A B C : Loc} (h : LocLe A B) (k : LocLe B C) : LocLe A C :=
  ⟨fun r hr => k.1 r (h.1 r hr), fun r hr => Nat.le_trans (h.2.1 r hr) (k.2.1 r (h.1 r hr)),
   fun r p n l hr hn hc => h.2.2 r p n l hr hn (k.2.2 r p n l (h.1 r hr) (fun hp => Nat.le_trans (hn hp) (h.2.1 r hr)) hc)⟩
theorem LocLe.zero (L : Loc) : LocLe L0 L := ⟨fun _ h => h.elim, fun _ h => h.elim, fun _ _ _ _ h => h.elim⟩

def Zero (X : Cnt) : Prop := ∀ b, X b = 0

/-- The cells 'vs' lie at (b, base ..) in a block of which no cell is frozen and which has room for 'room' cells from there. -/
def Blk (w : World) (b base : Nat) (vs : List Value) (room : Nat) : Prop :=
  ∃ c e z, w.heap[b]? = some (.cells c e z) ∧ base + vs.length ≤ c.size ∧ base + room ≤ c.size ∧ (∀ j (h : j < vs.length), c[base + j]? = some vs[j]) ∧ (∀ o, o < c.size → ¬ (z.1 ≤ o ∧ o < z.2))

def Sh (w : World) (F : FZ) (b base : Nat) (vs : List Value) : Prop :=
  ∀ j (h : j < vs.length), w.cell? ⟨b, base + j, none⟩ = some vs[j] ∧ F b (base + j)

def One (vs : List Value) : Prop := ∀ v ∈ vs, v.oneCell' = true

/-- Block b has at least n cells. -/
def Has (w : World) (b n : Nat) : Prop := ∃ c e z, w.heap[b]? = some (.cells c e z) ∧ n ≤ c.size

mutual
/-- Value v stands for d: its shared memory lies in F, its own blocks are counted in X; L tells where rows lie. -/
def Rel (w : World) (F : FZ) (fm : Nat → Nat) : Loc → D → Value → Cnt → Prop
  | _, .undef, _, X => Zero X
  | _, .bool b, v, X => v = .bool b ∧ Zero X
  | _, .int k n, v, X => v = .int k n ∧ Zero X
  | _, .str s, v, X => v = .string ⟨s.toArray⟩ ∧ Zero X
  | _, .slice false k n cells, v, X => Zero X ∧ cells.length = n * k ∧ ∃ a cap, v = .slice a n cap ∧ n ≤ cap ∧
      (cells = [] ∨ ∃ ad vs, a = some ad ∧ ad.spot = none ∧ One vs ∧ Sh w F ad.block ad.off vs ∧ RelL w F fm L0 cells vs (fun _ => 0))
  | _, .slice true k n cells, v, X => cells.length = n * k ∧ ∃ a cap, v = .slice a n cap ∧ n ≤ cap ∧
      ((cells = [] ∧ cap = 0 ∧ Zero X) ∨ ∃ ad vs Y, a = some ad ∧ ad.spot = none ∧ One vs ∧ Blk w ad.block ad.off vs (cap * k) ∧ RelL w F fm L0 cells vs Y ∧ (∀ o, ¬ F ad.block o) ∧ ∀ b, X b = Y b + if b = ad.block then 1 else 0)
  | L, .ref r path ver off n k, v, X => Zero X ∧ L.ok r ∧ (path ≠ [] → ver ≤ L.cur r) ∧ ∃ a cap, v = .slice a n cap ∧ (n ≤ cap ∧ (a = none → cap = 0)) ∧
      ∀ loc, L.at_ r path ver = some loc → match loc with
        | none => cap = 0
        | some (b, base) => cap = 0 ∨ (a = some ⟨b, base + off, none⟩ ∧ Has w b (base + off + cap * k))
  | L, .addr r path ver off, v, X => Zero X ∧ L.ok r ∧ (path ≠ [] → ver ≤ L.cur r) ∧ ∃ a, v = .pointer (some a) ∧ ∀ b base, L.at_ r path ver = some (some (b, base)) → a = ⟨b, base + off, none⟩
  | _, .faddr cells off, v, X => Zero X ∧ ∃ b base vs, v = .pointer (some ⟨b, base + off, none⟩) ∧ One vs ∧ Sh w F b base vs ∧ RelL w F fm L0 cells vs (fun _ => 0)
  | L, .agg cells, v, X => ∃ vs, v = .agg vs.toArray ∧ RelL w F fm L cells vs X
  | L, .tup cells, v, X => ∃ vs, v = .tuple vs.toArray ∧ RelL w F fm L cells vs X
  | L, .fn g caps, v, X => Zero X ∧ ∃ vs, v = .func (.func (fm g)) #[] vs.toArray ∧ RelL w F fm L caps vs (fun _ => 0)
def RelL (w : World) (F : FZ) (fm : Nat → Nat) : Loc → List D → List Value → Cnt → Prop
  | _, [], vs, X => vs = [] ∧ Zero X
  | L, d :: ds, vs, X => ∃ v vs' X1 X2, vs = v :: vs' ∧ Rel w F fm L d v X1 ∧ RelL w F fm L ds vs' X2 ∧ ∀ b, X b = X1 b + X2 b
end

/-- From (w, F) to (w', F'): what is shared stays, the blocks counted in X stay and stay unshared, no block shrinks. -/
structure Keep (w : World) (F : FZ) (w' : World) (F' : FZ) (X : Cnt) : Prop where
  cell : ∀ b o, F b o → w'.cell? ⟨b, o, none⟩ = w.cell? ⟨b, o, none⟩
  own : ∀ b, X b ≠ 0 → w'.heap[b]? = w.heap[b]?
  sub : ∀ b o, F b o → F' b o
  not : ∀ b o, X b ≠ 0 → F' b o → F b o
  has : ∀ b n, Has w b n → Has w' b n

theorem Keep.mono {w F w' F' X Y} (h : Keep w F w' F' X) (hY : ∀ b, Y b ≠ 0 → X b ≠ 0) : Keep w F w' F' Y :=
  ⟨h.cell, fun b hb => h.own b (hY b hb), h.sub, fun b o hb => h.not b o (hY b hb), h.has⟩

theorem Keep.refl (w : World) (F : FZ) (X : Cnt) : Keep w F w F X := ⟨fun _ _ _ => rfl, fun _ _ => rfl, fun _ _ h => h, fun _ _ _ h => h, fun _ _ h => h⟩

theorem Sh.keep {w F w' F' X b base vs} (h : Sh w F b base vs) (k : Keep w F w' F' X) : Sh w' F' b base vs :=
  fun j hj => ⟨(k.cell _ _ (h j hj).2).trans (h j hj).1, k.sub _ _ (h j hj).2⟩

theorem Blk.keep {w F w' F' X b base vs room} (h : Blk w b base vs room) (k : Keep w F w' F' X) (hb : X b ≠ 0) : Blk w' b base vs room := by
  obtain ⟨c, e, z, h1, h2⟩ := h
  exact ⟨c, e, z, (k.own b hb).trans h1, h2⟩

mutual
theorem Rel.keep {w w' : World} {F F' : FZ} {fm : Nat → Nat} : ∀ {L L' : Loc} {d : D} {v : Value} {X : Cnt}, Keep w F w' F' X → LocLe L L' →
    Rel w F fm L d v X → Rel w' F' fm L' d v X
  | _, _, .undef, _, _, _, _, h => h
  | _, _, .bool _, _, _, _, _, h => h
  | _, _, .int _ _, _, _, _, _, h => h
  | _, _, .str _, _, _, _, _, h => h
  | _, _, .slice false k n cells, _, X, hk, _, h => by
    unfold Rel at h ⊢
    obtain ⟨hz, hl, a, cap, hv, hc, h⟩ := h
    refine ⟨hz, hl, a, cap, hv, hc, ?_⟩
    rcases h with h | ⟨ad, vs, ha, hs, ho, hsh, hr⟩
    · exact .inl h
    · exact .inr ⟨ad, vs, ha, hs, ho, hsh.keep hk, RelL.keep (hk.mono fun b hb => absurd rfl hb) (LocLe.refl _) hr⟩
  | _, _, .slice true k n cells, _, X, hk, _, h => by
    unfold Rel at h ⊢
    obtain ⟨hl, a, cap, hv, hc, h⟩ := h
    refine ⟨hl, a, cap, hv, hc, ?_⟩
    rcases h with h | ⟨ad, vs, Y, ha, hs, ho, hb, hr, hF, hX⟩
    · exact .inl h
    · have hne : X ad.block ≠ 0 := by rw [hX]; simp
      exact .inr ⟨ad, vs, Y, ha, hs, ho, hb.keep hk hne, RelL.keep (hk.mono fun b hb => by rw [hX]; omega) (LocLe.refl _) hr, fun o h' => hF o (hk.not _ _ hne h'), hX⟩
  | _, _, .ref r path ver off n k, _, X, hk, hL, h => by
    unfold Rel at h ⊢
    obtain ⟨hz, hrn, hver, a, cap, hv, hc, h⟩ := h
    refine ⟨hz, hL.1 _ hrn, fun hp => Nat.le_trans (hver hp) (hL.2.1 r hrn), a, cap, hv, hc, fun loc hloc => ?_⟩
    have := h loc (hL.2.2 _ _ _ _ hrn hver hloc)
    match loc, this with
    | none, h => exact h
    | some (b, base), h => exact h.imp id fun h => ⟨h.1, hk.has _ _ h.2⟩
  | _, _, .addr r path ver off, _, X, hk, hL, h => by
    unfold Rel at h ⊢
    obtain ⟨hz, hrn, hver, a, hv, h⟩ := h
    exact ⟨hz, hL.1 _ hrn, fun hp => Nat.le_trans (hver hp) (hL.2.1 r hrn), a, hv, fun b base hloc => h b base (hL.2.2 _ _ _ _ hrn hver hloc)⟩
  | _, _, .faddr cells off, _, X, hk, hL, h => by
    unfold Rel at h ⊢
    obtain ⟨hz, b, base, vs, hv, ho, hsh, hr⟩ := h
    exact ⟨hz, b, base, vs, hv, ho, hsh.keep hk, RelL.keep (hk.mono fun b hb => absurd rfl hb) (LocLe.refl _) hr⟩
  | _, _, .agg cells, _, X, hk, hL, h => by
    unfold Rel at h ⊢
    obtain ⟨vs, hv, hr⟩ := h
    exact ⟨vs, hv, RelL.keep hk hL hr⟩
  | _, _, .tup cells, _, X, hk, hL, h => by
    unfold Rel at h ⊢
    obtain ⟨vs, hv, hr⟩ := h
    exact ⟨vs, hv, RelL.keep hk hL hr⟩
  | _, _, .fn g cells, _, X, hk, hL, h => by
    unfold Rel at h ⊢
    obtain ⟨hz, vs, hv, hr⟩ := h
    exact ⟨hz, vs, hv, RelL.keep (hk.mono fun b hb => absurd rfl hb) hL hr⟩
theorem RelL.keep {w w' : World} {F F' : FZ} {fm : Nat → Nat} : ∀ {L L' : Loc} {ds : List D} {vs : List Value} {X : Cnt}, Keep w F w' F' X → LocLe L L' →
    RelL w F fm L ds vs X → RelL w' F' fm L' ds vs X
  | _, _, [], _, _, _, _, h => by unfold RelL at h ⊢; exact h
  | _, _, d :: ds, _, X, hk, hL, h => by
    unfold RelL at h ⊢
    obtain ⟨v, vs', X1, X2, hvs, h1, h2, hX⟩ := h
    exact ⟨v, vs', X1, X2, hvs, Rel.keep (hk.mono fun b hb => by rw [hX]; omega) hL h1, RelL.keep (hk.mono fun b hb => by rw [hX]; omega) hL h2, hX⟩
end
theorem RelL.nil {w F fm L} : RelL w F fm L [] [] (fun _ => 0) := by unfold RelL; exact ⟨rfl, fun _ => rfl⟩
theorem RelL.cons {w F fm L d ds v vs X1 X2} (h1 : Rel w F fm L d v X1) (h2 : RelL w F fm L ds vs X2) : RelL w F fm L (d :: ds) (v :: vs) (fun b => X1 b + X2 b) := by
  unfold RelL; exact ⟨v, vs, X1, X2, rfl, h1, h2, fun _ => rfl⟩

theorem Rel.congr {w : World} {F : FZ} {fm : Nat → Nat} {L : Loc} {d : D} {v : Value} {X Y : Cnt} (h : ∀ b, Y b = X b) (hr : Rel w F fm L d v X) : Rel w F fm L d v Y :=
  (funext h : Y = X) ▸ hr
theorem RelL.congr {w : World} {F : FZ} {fm : Nat → Nat} {L : Loc} {d : List D} {v : List Value} {X Y : Cnt} (h : ∀ b, Y b = X b) (hr : RelL w F fm L d v X) : RelL w F fm L d v Y :=
  (funext h : Y = X) ▸ hr

theorem RelL.length {w F fm L} : ∀ {ds : List D} {vs : List Value} {X : Cnt}, RelL w F fm L ds vs X → vs.length = ds.length
  | [], vs, X, h => by unfold RelL at h; simp [h.1]
  | d :: ds, vs, X, h => by
    unfold RelL at h
    obtain ⟨v, vs', X1, X2, rfl, _, h2, _⟩ := h
    simp [RelL.length h2]

theorem RelL.get {w F fm L} : ∀ {ds : List D} {vs : List Value} {X : Cnt} {i : Nat} {d : D}, RelL w F fm L ds vs X → ds[i]? = some d →
    ∃ v X1 X2, vs[i]? = some v ∧ Rel w F fm L d v X1 ∧ (∀ b, X b = X1 b + X2 b) ∧
      (∀ w' F' L' d' v' Y, Keep w F w' F' X2 → LocLe L L' → Rel w' F' fm L' d' v' Y → RelL w' F' fm L' (ds.set i d') (vs.set i v') (fun b => Y b + X2 b))
  | [], _, _, _, _, _, hd => by simp at hd
  | d0 :: ds, vs, X, 0, d, h, hd => by
    unfold RelL at h
    obtain ⟨v, vs', X1, X2, rfl, h1, h2, hX⟩ := h
    simp at hd; subst hd
    refine ⟨v, X1, X2, rfl, h1, hX, fun w' F' L' d' v' Y hk hL hr => ?_⟩
    simp only [List.set_cons_zero]
    exact RelL.cons hr (RelL.keep hk hL h2)
  | d0 :: ds, vs, X, i + 1, d, h, hd => by
    unfold RelL at h
    obtain ⟨v, vs', X1, X2, rfl, h1, h2, hX⟩ := h
    simp at hd
    obtain ⟨v', Y1, Y2, hv', hr, hY, hset⟩ := RelL.get h2 hd
    refine ⟨v', Y1, fun b => X1 b + Y2 b, by simpa using hv', hr, fun b => by show X b = Y1 b + (X1 b + Y2 b); rw [hX, hY]; omega, fun w' F' L' d' v'' Y hk hL hr' => ?_⟩
    simp only [List.set_cons_succ]
    refine RelL.congr (X := fun b => X1 b + (Y b + Y2 b)) (fun b => by omega) (RelL.cons (Rel.keep (hk.mono fun b hb => by omega) hL h1) (hset w' F' L' d' v'' Y (hk.mono fun b hb => by omega) hL hr'))

theorem RelL.append {w F fm L} : ∀ {ds es : List D} {vs us : List Value} {X Y : Cnt}, RelL w F fm L ds vs X → RelL w F fm L es us Y → RelL w F fm L (ds ++ es) (vs ++ us) (fun b => X b + Y b)
  | [], es, vs, us, X, Y, h, k => by
    unfold RelL at h
    obtain ⟨rfl, hz⟩ := h
    exact RelL.congr (fun b => by simp [hz b]) k
  | d :: ds, es, vs, us, X, Y, h, k => by
    unfold RelL at h
    obtain ⟨v, vs', X1, X2, rfl, h1, h2, hX⟩ := h
    exact RelL.congr (fun b => by simp only [hX]; omega) (RelL.cons h1 (RelL.append h2 k))

theorem RelL.split {w F fm L} : ∀ {ds es : List D} {us : List Value} {X : Cnt}, RelL w F fm L (ds ++ es) us X →
    ∃ vs ws X1 X2, us = vs ++ ws ∧ RelL w F fm L ds vs X1 ∧ RelL w F fm L es ws X2 ∧ ∀ b, X b = X1 b + X2 b
  | [], es, us, X, h => ⟨[], us, fun _ => 0, X, rfl, RelL.nil, h, fun b => by simp⟩
  | d :: ds, es, us, X, h => by
    simp only [List.cons_append] at h
    unfold RelL at h
    obtain ⟨v, vs', X1, X2, rfl, h1, h2, hX⟩ := h
    obtain ⟨vs, ws, Y1, Y2, rfl, k1, k2, hY⟩ := RelL.split h2
    exact ⟨v :: vs, ws, _, Y2, rfl, RelL.cons h1 k1, k2, fun b => by rw [hX, hY]; omega⟩

/-- What is shared: its own blocks are among those that may never be written again. -/
structure Froze (w : World) (F F' : FZ) (X : Cnt) : Prop where
  sub : ∀ b o, F b o → F' b o
  all : ∀ b o, X b ≠ 0 → (w.cell? ⟨b, o, none⟩).isSome → F' b o

theorem Froze.mono {w F F' X Y} (h : Froze w F F' X) (hY : ∀ b, Y b ≠ 0 → X b ≠ 0) : Froze w F F' Y := ⟨h.sub, fun b o hb => h.all b o (hY b hb)⟩

theorem Blk.cells {w b base vs room} (h : Blk w b base vs room) : ∀ j (hj : j < vs.length), w.cell? ⟨b, base + j, none⟩ = some vs[j] := by
  obtain ⟨c, e, z, h1, _, _, h2, _⟩ := h
  intro j hj
  simp [World.cell?, h1, h2 j hj]

theorem Froze.keep {w F F' X} (h : Froze w F F' X) : Keep w F w F' (fun _ => 0) := ⟨fun _ _ _ => rfl, fun _ h => absurd rfl h, h.sub, fun _ _ h => absurd rfl h, fun _ _ h => h⟩

theorem Zero.of_zero : Zero (fun _ => 0) := fun _ => rfl
theorem Zero.eq {X : Cnt} (h : Zero X) : X = fun _ => 0 := funext h

theorem shareL_length : ∀ l : List D, (shareL l).length = l.length
  | [] => by unfold shareL; rfl
  | d :: l => by unfold shareL; simp [shareL_length l]

mutual
theorem Rel.share {w : World} {F F' : FZ} {fm : Nat → Nat} : ∀ {L : Loc} {d : D} {v : Value} {X : Cnt}, Froze w F F' X → Rel w F fm L d v X → Rel w F' fm L (shareD d) v (fun _ => 0)
  | _, .undef, _, _, _, _ => by unfold shareD Rel; exact Zero.of_zero
  | _, .bool _, _, _, _, h => by unfold shareD; unfold Rel at h ⊢; exact ⟨h.1, Zero.of_zero⟩
  | _, .int _ _, _, _, _, h => by unfold shareD; unfold Rel at h ⊢; exact ⟨h.1, Zero.of_zero⟩
  | _, .str _, _, _, _, h => by unfold shareD; unfold Rel at h ⊢; exact ⟨h.1, Zero.of_zero⟩
  | _, .slice false k n cells, _, X, hk, h => by
    unfold shareD
    unfold Rel at h ⊢
    obtain ⟨hz, hl, a, cap, hv, hc, h⟩ := h
    refine ⟨Zero.of_zero, by rw [shareL_length]; exact hl, a, cap, hv, hc, ?_⟩
    rcases h with h | ⟨ad, vs, ha, hs, ho, hsh, hr⟩
    · subst h; left; unfold shareL; rfl
    · exact .inr ⟨ad, vs, ha, hs, ho, hsh.keep hk.keep, RelL.share (hk.mono fun b hb => absurd rfl hb) hr⟩
  | _, .slice true k n cells, _, X, hk, h => by
    unfold shareD
    unfold Rel at h ⊢
    obtain ⟨hl, a, cap, hv, hc, h⟩ := h
    refine ⟨Zero.of_zero, by rw [shareL_length]; exact hl, a, cap, hv, hc, ?_⟩
    rcases h with ⟨h, _⟩ | ⟨ad, vs, Y, ha, hs, ho, hb, hr, hF, hX⟩
    · subst h; left; unfold shareL; rfl
    · have hne : X ad.block ≠ 0 := by rw [hX]; simp
      refine .inr ⟨ad, vs, ha, hs, ho, fun j hj => ?_, RelL.share (hk.mono fun b hb => by rw [hX]; omega) hr⟩
      have := hb.cells j hj
      exact ⟨this, hk.all _ _ hne (by rw [this]; rfl)⟩
  | _, .ref r path ver off n k, _, X, hk, h => by
    unfold shareD
    exact Rel.congr (by unfold Rel at h; exact fun b => (h.1 b).symm) (Rel.keep ((hk.keep).mono fun b hb => by unfold Rel at h; exact absurd (h.1 b) hb) (LocLe.refl _) h)
  | _, .addr r path ver off, _, X, hk, h => by
    unfold shareD
    exact Rel.congr (by unfold Rel at h; exact fun b => (h.1 b).symm) (Rel.keep ((hk.keep).mono fun b hb => by unfold Rel at h; exact absurd (h.1 b) hb) (LocLe.refl _) h)
  | _, .faddr cells off, _, X, hk, h => by
    unfold shareD
    exact Rel.congr (by unfold Rel at h; exact fun b => (h.1 b).symm) (Rel.keep ((hk.keep).mono fun b hb => by unfold Rel at h; exact absurd (h.1 b) hb) (LocLe.refl _) h)
  | _, .agg cells, _, X, hk, h => by
    unfold shareD
    unfold Rel at h ⊢
    obtain ⟨vs, hv, hr⟩ := h
    exact ⟨vs, hv, RelL.share hk hr⟩
  | _, .tup cells, _, X, hk, h => by
    unfold shareD
    unfold Rel at h ⊢
    obtain ⟨vs, hv, hr⟩ := h
    exact ⟨vs, hv, RelL.share hk hr⟩
  | _, .fn g cells, _, X, hk, h => by
    unfold shareD
    exact Rel.congr (by unfold Rel at h; exact fun b => (h.1 b).symm) (Rel.keep ((hk.keep).mono fun b hb => by unfold Rel at h; exact absurd (h.1 b) hb) (LocLe.refl _) h)
theorem RelL.share {w : World} {F F' : FZ} {fm : Nat → Nat} : ∀ {L : Loc} {d : List D} {v : List Value} {X : Cnt}, Froze w F F' X → RelL w F fm L d v X → RelL w F' fm L (shareL d) v (fun _ => 0)
  | _, [], _, _, _, h => by unfold shareL; unfold RelL at h ⊢; exact ⟨h.1, Zero.of_zero⟩
  | _, d :: ds, _, X, hk, h => by
    unfold shareL
    unfold RelL at h ⊢
    obtain ⟨v, vs', X1, X2, hvs, h1, h2, hX⟩ := h
    exact ⟨v, vs', _, _, hvs, Rel.share (hk.mono fun b hb => by rw [hX]; omega) h1, RelL.share (hk.mono fun b hb => by rw [hX]; omega) h2, fun b => rfl⟩
end
end Av
namespace Av
open Go

abbrev Ms := List (Option (Nat × Nat) × Nat)

def RowAt (w : World) (F : FZ) (fm : Nat → Nat) (row : Row) (m : Option (Nat × Nat)) (Y : Cnt) : Prop :=
  match m with
  | none => row.cells = [] ∧ Zero Y
  | some (b, base) => ∃ vs X, One vs ∧ Blk w b base vs 0 ∧ RelL w F fm L0 row.cells vs X ∧ (∀ o, F b o → row.pub = true ∧ o < base + row.fz ∧ o < base + row.cells.length) ∧ ∀ c, Y c = X c + if c = b then 1 else 0

def RowsRel (w : World) (F : FZ) (fm : Nat → Nat) : Rows → Ms → Cnt → Prop
  | [], ms, X => ms = [] ∧ Zero X
  | r :: rs, ms, X => ∃ m ms' X1 X2, ms = m :: ms' ∧ (match r with | none => Zero X1 | some row => row.ver = m.2 ∧ RowAt w F fm row m.1 X1) ∧ RowsRel w F fm rs ms' X2 ∧ ∀ b, X b = X1 b + X2 b

theorem RowAt.keep {w F w' F' fm row m Y} (k : Keep w F w' F' Y) (h : RowAt w F fm row m Y) : RowAt w' F' fm row m Y := by
  match m, h with
  | none, h => exact h
  | some (b, base), ⟨vs, X, h1, h2, h3, h4, h5⟩ =>
    have hb : Y b ≠ 0 := by rw [h5]; simp
    exact ⟨vs, X, h1, h2.keep k hb, h3.keep (k.mono fun c hc => by rw [h5]; omega) (LocLe.refl _), fun o ho => h4 o (k.not _ _ hb ho), h5⟩

theorem RowsRel.length {w F fm} : ∀ {rows : Rows} {ms : Ms} {X : Cnt}, RowsRel w F fm rows ms X → ms.length = rows.length
  | [], ms, X, h => by unfold RowsRel at h; simp [h.1]
  | r :: rs, ms, X, h => by
    unfold RowsRel at h
    obtain ⟨m, ms', X1, X2, rfl, _, h2, _⟩ := h
    simp [RowsRel.length h2]

theorem RowsRel.keep {w F w' F' fm} : ∀ {rows : Rows} {ms : Ms} {X : Cnt}, Keep w F w' F' X → RowsRel w F fm rows ms X → RowsRel w' F' fm rows ms X
  | [], ms, X, _, h => by unfold RowsRel at h ⊢; exact h
  | r :: rs, ms, X, k, h => by
    unfold RowsRel at h ⊢
    obtain ⟨m, ms', X1, X2, rfl, h1, h2, hX⟩ := h
    refine ⟨m, ms', X1, X2, rfl, ?_, RowsRel.keep (k.mono fun b hb => by rw [hX]; omega) h2, hX⟩
    match r, h1 with
    | none, h1 => exact h1
    | some row, h1 => exact ⟨h1.1, h1.2.keep (k.mono fun b hb => by rw [hX]; omega)⟩

theorem RowsRel.congr {w F fm rows ms} {X Y : Cnt} (h : ∀ b, Y b = X b) (hr : RowsRel w F fm rows ms X) : RowsRel w F fm rows ms Y := (funext h : Y = X) ▸ hr

theorem theRow_eq {rows : Rows} {r : Nat} {row : Row} (h : theRow rows r = some row) : rows[r]? = some (some row) := by
  unfold theRow at h
  split at h
  · rename_i x hx; rw [hx]; simpa using h
  · simp at h

theorem RowsRel.take {w F fm} : ∀ {rows : Rows} {ms : Ms} {X : Cnt} {r : Nat} {row : Row}, RowsRel w F fm rows ms X → rows[r]? = some (some row) →
    ∃ m X1 X2, ms[r]? = some m ∧ row.ver = m.2 ∧ RowAt w F fm row m.1 X1 ∧ (∀ b, X b = X1 b + X2 b) ∧ RowsRel w F fm (rows.set r none) ms X2
  | [], _, _, _, _, _, hr => by simp at hr
  | r0 :: rs, ms, X, 0, row, h, hr => by
    unfold RowsRel at h
    obtain ⟨m, ms', X1, X2, rfl, h1, h2, hX⟩ := h
    simp at hr; subst hr
    refine ⟨m, X1, X2, rfl, h1.1, h1.2, hX, ?_⟩
    simp only [List.set_cons_zero]
    unfold RowsRel
    exact ⟨m, ms', fun _ => 0, X2, rfl, Zero.of_zero, h2, fun b => by simp⟩
  | r0 :: rs, ms, X, r + 1, row, h, hr => by
    unfold RowsRel at h
    obtain ⟨m, ms', X1, X2, rfl, h1, h2, hX⟩ := h
    simp at hr
    obtain ⟨m', Y1, Y2, hm, hv, hat, hY, hset⟩ := RowsRel.take h2 hr
    refine ⟨m', Y1, fun b => X1 b + Y2 b, by simpa using hm, hv, hat, fun b => by show X b = Y1 b + (X1 b + Y2 b); rw [hX, hY]; omega, ?_⟩
    simp only [List.set_cons_succ]
    unfold RowsRel
    exact ⟨m, ms', X1, Y2, rfl, h1, hset, fun _ => rfl⟩

theorem RowsRel.put {w F fm} : ∀ {rows : Rows} {ms : Ms} {X2 : Cnt} {r : Nat} {row : Row} {m : Option (Nat × Nat) × Nat} {X1 : Cnt}, RowsRel w F fm (rows.set r none) ms X2 → ms[r]? = some m →
    RowAt w F fm row m.1 X1 → RowsRel w F fm (rows.set r (some row)) (ms.set r (m.1, row.ver)) (fun b => X1 b + X2 b)
  | [], _, _, _, _, _, _, h, hm, _ => by simp [RowsRel] at h; simp [h.1] at hm
  | r0 :: rs, ms, X2, 0, row, m, X1, h, hm, hat => by
    simp only [List.set_cons_zero] at h ⊢
    unfold RowsRel at h
    obtain ⟨m', ms', Y1, Y2, rfl, h1, h2, hX⟩ := h
    simp at hm; subst hm
    unfold RowsRel
    refine ⟨(m'.1, row.ver), ms', X1, Y2, by simp, ⟨rfl, hat⟩, h2, fun b => ?_⟩
    have hz : Y1 b = 0 := h1 b
    show X1 b + X2 b = X1 b + Y2 b
    rw [hX, hz]; omega
  | r0 :: rs, ms, X2, r + 1, row, m, X1, h, hm, hat => by
    simp only [List.set_cons_succ] at h ⊢
    unfold RowsRel at h
    obtain ⟨m', ms', Y1, Y2, rfl, h1, h2, hX⟩ := h
    simp at hm
    unfold RowsRel
    refine ⟨m', ms'.set r (m.1, row.ver), Y1, fun b => X1 b + Y2 b, by simp, h1, RowsRel.put h2 hm hat, fun b => ?_⟩
    show X1 b + X2 b = Y1 b + (X1 b + Y2 b)
    rw [hX]; omega

theorem RowsRel.push {w F fm} : ∀ {rows : Rows} {ms : Ms} {X : Cnt} {row : Row} {m : Option (Nat × Nat)} {X1 : Cnt}, RowsRel w F fm rows ms X → RowAt w F fm row m X1 → row.ver = 0 →
    RowsRel w F fm (rows ++ [some row]) (ms ++ [(m, 0)]) (fun b => X b + X1 b)
  | [], ms, X, row, m, X1, h, hat, hv => by
    unfold RowsRel at h
    obtain ⟨rfl, hz⟩ := h
    simp only [List.nil_append]
    unfold RowsRel
    refine ⟨(m, 0), [], X1, fun _ => 0, rfl, ⟨hv, hat⟩, by unfold RowsRel; exact ⟨rfl, Zero.of_zero⟩, fun b => by simp [hz b]⟩
  | r0 :: rs, ms, X, row, m, X1, h, hat, hv => by
    unfold RowsRel at h
    obtain ⟨m', ms', Y1, Y2, rfl, h1, h2, hX⟩ := h
    simp only [List.cons_append]
    unfold RowsRel
    exact ⟨m', ms' ++ [(m, 0)], Y1, fun b => Y2 b + X1 b, rfl, h1, RowsRel.push h2 hat hv, fun b => by show X b + X1 b = Y1 b + (Y2 b + X1 b); rw [hX]; omega⟩

/-! ### Where rows lie -/

/-- The value of the nested own slice at the end of a path. -/
def navC (w : World) : List D → Nat × Nat → List Nat → Option Value
  | _, _, [] => none
  | cells, bb, p :: ps => match cells[p]? with
    | some (.slice true _ _ cs) => match w.cell? ⟨bb.1, bb.2 + p, none⟩ with
      | some v => match ps with
        | [] => some v
        | _ :: _ => match v with
          | .slice (some a) _ _ => navC w cs (a.block, a.off) ps
          | _ => none
      | none => none
    | _ => none

/-- Where a slice's cells lie: nowhere, if it has room for none. -/
def locV : Value → Option (Option (Nat × Nat))
  | .slice a _ c => if c = 0 then some none else a.map fun a => some (a.block, a.off)
  | _ => none

def locAt (w : World) (rows : Rows) (ms : Ms) (r : Nat) (path : List Nat) (ver : Nat) : Option (Option (Nat × Nat)) :=
  match theRow rows r, ms[r]? with
  | some row, some m => match path with
    | [] => some m.1
    | p :: ps => if ver = row.ver then match m.1 with
        | some bb => (navC w row.cells bb (p :: ps)).bind locV
        | none => none
      else none
  | _, _ => none

def mkLoc (w : World) (rows : Rows) (ms : Ms) : Loc := ⟨locAt w rows ms, fun r => ((ms[r]?).map (·.2)).getD 0, fun r => r < rows.length⟩

/-- What a node of a tree (with its value) leads to. -/
def navNode (w : World) (d : D) (v : Value) (q : List Nat) : Option Value :=
  match d with
  | .slice true _ _ cs => match q with
    | [] => some v
    | _ :: _ => match v with
      | .slice (some a) _ _ => navC w cs (a.block, a.off) q
      | _ => none
  | _ => none

theorem navC_cons {w cells bb p ps} : navC w cells bb (p :: ps) = match cells[p]?, w.cell? ⟨bb.1, bb.2 + p, none⟩ with
    | some d, some v => navNode w d v ps
    | _, _ => none := by
  rw [navC]
  split
  · rename_i k n cs h
    rw [h]
    cases hw : w.cell? ⟨bb.1, bb.2 + p, none⟩ with
    | none => rfl
    | some v => rfl
  · rename_i h
    split
    · rename_i d v hd hv
      unfold navNode
      split
      · rename_i k n cs
        exact absurd hd (h k n cs)
      · rfl
    · rfl

theorem putNav_length : ∀ (path : List Nat) (cells : List D) (d : D), path ≠ [] → (putNav cells path d).length = cells.length
  | [], _, _, h => absurd rfl h
  | [p], cells, d, _ => by simp [putNav]
  | p :: q :: ps, cells, d, _ => by
    unfold putNav
    split <;> simp

/-- In blocks that stay, the way through a tree stays. -/
theorem navNode_keep {w w' : World} {F : FZ} {fm : Nat → Nat} {d : D} {v : Value} {X : Cnt} (hr : Rel w F fm L0 d v X) (hh : ∀ b, X b ≠ 0 → w'.heap[b]? = w.heap[b]?) :
    ∀ q l, navNode w' d v q = some l → navNode w d v q = some l := by
  intro q
  induction q generalizing d v X with
  | nil =>
    intro l hl
    unfold navNode at hl ⊢
    split at hl
    · simpa using hl
    · simp at hl
  | cons i q ih =>
    intro l hl
    cases d with
    | slice o k n cs =>
      cases o with
      | false => simp [navNode] at hl
      | true =>
        cases v with
        | slice a0 len c =>
          cases a0 with
          | none => simp [navNode] at hl
          | some a =>
            simp only [navNode] at hl ⊢
            unfold Rel at hr
            obtain ⟨hl1, a', cap, hva, hcap, h | ⟨ad, vs1, Y, ha, hs, ho, hb, hrl, hF, hX1⟩⟩ := hr
            · rw [h.1] at hl; simp [navC] at hl
            subst ha
            simp at hva
            obtain ⟨rfl, rfl, rfl⟩ := hva
            rw [navC_cons] at hl ⊢
            simp only at hl ⊢
            cases hci : cs[i]? with
            | none => simp [hci] at hl
            | some di =>
              rw [hci] at hl
              obtain ⟨vi, Y1, Y2, hvi, hri, hY, _⟩ := hrl.get hci
              have hli : i < vs1.length := by rcases Nat.lt_or_ge i vs1.length with h | h; exact h; simp [List.getElem?_eq_none h] at hvi
              have hcw := hb.cells i hli
              have hhb := hh a.block (by rw [hX1]; simp)
              have hcw' : w'.cell? ⟨a.block, a.off + i, none⟩ = some vs1[i] := by simpa [World.cell?, hhb] using hcw
              have hvi' : vi = vs1[i] := by rw [List.getElem?_eq_getElem hli] at hvi; simpa using hvi.symm
              rw [hcw'] at hl
              rw [hcw]
              subst hvi'
              exact ih hri (fun b hb => hh b (by rw [hX1, hY]; omega)) l hl
        | _ => simp [navNode] at hl
    | _ => simp [navNode] at hl

/-- The nested own slice at 'path', what is around it, and what may take its place. -/
theorem nav_focus {w : World} {F : FZ} {fm : Nat → Nat} : ∀ (path : List Nat) (cells : List D) (vs : List Value) (X : Cnt) (bb : Nat × Nat) (cs : List D), path ≠ [] →
    RelL w F fm L0 cells vs X → (∀ j (h : j < vs.length), w.cell? ⟨bb.1, bb.2 + j, none⟩ = some vs[j]) → nav cells path = some cs →
    ∃ k n v X1 R, Rel w F fm L0 (.slice true k n cs) v X1 ∧ (∀ b, X b = X1 b + R b) ∧
      (∀ q, navC w cells bb (path ++ q) = navNode w (.slice true k n cs) v q) ∧
      (∀ cs', setNav cells path cs' = putNav cells path (.slice true k n cs')) ∧
      (∀ w' F' d' Z, Keep w F w' F' R → Rel w' F' fm L0 d' v Z → RelL w' F' fm L0 (putNav cells path d') vs (fun b => Z b + R b)) ∧
      (∀ w' d', (∀ b, R b ≠ 0 → w'.heap[b]? = w.heap[b]?) → (∀ j (h : j < vs.length), w'.cell? ⟨bb.1, bb.2 + j, none⟩ = some vs[j]) →
        (∀ q l, navNode w' d' v q = some l → navNode w (.slice true k n cs) v q = some l) →
        ∀ q l, navC w' (putNav cells path d') bb q = some l → navC w cells bb q = some l)
  | [], _, _, _, _, _, h, _, _, _ => absurd rfl h
  | p :: ps, cells, vs, X, bb, cs, _, hr, hc, hn => by
    unfold nav at hn
    split at hn
    case h_2 => simp at hn
    rename_i k n cs1 hp
    obtain ⟨v1, X1, X2, hv1, hr1, hX, hset⟩ := hr.get hp
    have hlt : p < vs.length := by rcases Nat.lt_or_ge p vs.length with h | h; exact h; simp [List.getElem?_eq_none h] at hv1
    have hcv : w.cell? ⟨bb.1, bb.2 + p, none⟩ = some v1 := by rw [hc p hlt]; rw [List.getElem?_eq_getElem hlt] at hv1; exact hv1
    have hvs : vs.set p v1 = vs := by
      apply List.ext_getElem?; intro i
      rw [List.getElem?_set]
      split
      · rename_i h; subst h; exact hv1.symm
      · rfl
    match ps, hn with
    | [], hn =>
      simp [nav] at hn
      subst hn
      refine ⟨k, n, v1, X1, X2, hr1, hX, fun q => ?_, fun cs' => ?_, fun w' F' d' Z hk hd => ?_, fun w' d' hh hc' hq q l hl => ?_⟩
      · simp only [List.cons_append, List.nil_append]
        rw [navC_cons, hp, hcv]
      · simp [setNav, putNav, hp]
      · simp only [putNav]
        rw [← hvs]
        exact hset w' F' L0 d' v1 Z hk (LocLe.refl _) hd
      · simp only [putNav] at hl
        match q, hl with
        | [], hl => simp [navC] at hl
        | i :: q, hl =>
          rw [navC_cons] at hl ⊢
          by_cases hi : i = p
          · subst hi
            have hlen : i < cells.length := by rcases Nat.lt_or_ge i cells.length with h | h; exact h; simp [List.getElem?_eq_none h] at hp
            have h1 : (cells.set i d')[i]? = some d' := by simp [hlen]
            have h2 : w'.cell? ⟨bb.1, bb.2 + i, none⟩ = some v1 := by rw [hc' i hlt]; rw [List.getElem?_eq_getElem hlt] at hv1; exact hv1
            rw [h1, h2] at hl
            rw [hp, hcv]
            exact hq q l hl
          · have h1 : (cells.set p d')[i]? = cells[i]? := by rw [List.getElem?_set]; simp [Ne.symm hi]
            rw [h1] at hl
            cases hci : cells[i]? with
            | none => simp [hci] at hl
            | some di =>
              rw [hci] at hl
              by_cases hli : i < vs.length
              · rw [hc' i hli] at hl
                rw [hc i hli]
                have hget := (RelL.get (hset w F L0 .undef v1 (fun _ => 0) ((Keep.refl _ _ _)) (LocLe.refl _) (by unfold Rel; exact Zero.of_zero)) (i := i) (d := di) (by rw [List.getElem?_set]; simp [Ne.symm hi, hci]))
                obtain ⟨vi, Y1, Y2, hvi, hri, hY, _⟩ := hget
                have hvi' : vi = vs[i] := by rw [hvs, List.getElem?_eq_getElem hli] at hvi; simpa using hvi.symm
                subst hvi'
                exact navNode_keep hri (fun b hb => hh b (by have := hY b; simp at this; omega)) q l hl
              · have hlen2 := hr.length
                have hlen3 : i < cells.length := by rcases Nat.lt_or_ge i cells.length with h | h; exact h; simp [List.getElem?_eq_none h] at hci
                omega
    | p2 :: ps, hn =>
      unfold Rel at hr1
      obtain ⟨hl1, a, cap, hva, hcap, h | ⟨ad, vs1, Y, ha, hs, ho, hb, hrl, hF, hX1⟩⟩ := hr1
      · rw [h.1] at hn; simp [nav] at hn
      subst ha
      obtain ⟨k2, n2, v, Z1, R, g1, g2, g3, g4, g5, g6⟩ := nav_focus (p2 :: ps) cs1 vs1 Y (ad.block, ad.off) cs (by simp) hrl hb.cells hn
      refine ⟨k2, n2, v, Z1, fun b => R b + (if b = ad.block then 1 else 0) + X2 b, g1, fun b => ?_, fun q => ?_, fun cs' => ?_, fun w' F' d' Z hk hd => ?_, fun w' d' hh hc' hq q l hl => ?_⟩
      · show X b = Z1 b + (R b + (if b = ad.block then 1 else 0) + X2 b)
        rw [hX, hX1, g2]; omega
      · simp only [List.cons_append]
        rw [navC_cons, hp, hcv, hva]
        exact g3 q
      · simp only [setNav, putNav, hp]
        have := g4 cs'
        simp only [setNav] at this
        rw [this]
      · simp only [putNav, hp]
        rw [← hvs]
        have hne : (R ad.block + (if ad.block = ad.block then 1 else 0) + X2 ad.block) ≠ 0 := by simp
        have hrel : Rel w' F' fm L0 (.slice true k n (putNav cs1 (p2 :: ps) d')) v1 (fun b => (Z b + R b) + if b = ad.block then 1 else 0) := by
          unfold Rel
          refine ⟨by rw [putNav_length _ _ _ (by simp)]; exact hl1, some ad, cap, hva, hcap, .inr ⟨ad, vs1, fun b => Z b + R b, rfl, hs, ho, hb.keep hk hne, g5 w' F' d' Z (hk.mono fun b hb => by omega) hd, fun o h => hF o (hk.not _ _ hne h), fun b => rfl⟩⟩
        exact RelL.congr (fun b => by show Z b + (R b + (if b = ad.block then 1 else 0) + X2 b) = Z b + R b + (if b = ad.block then 1 else 0) + X2 b; omega)
          (hset w' F' L0 _ v1 _ (hk.mono fun b hb => by omega) (LocLe.refl _) hrel)
      · simp only [putNav, hp] at hl
        match q, hl with
        | [], hl => simp [navC] at hl
        | i :: q, hl =>
          rw [navC_cons] at hl ⊢
          by_cases hi : i = p
          · subst hi
            have hlen : i < cells.length := by rcases Nat.lt_or_ge i cells.length with h | h; exact h; simp [List.getElem?_eq_none h] at hp
            have h1 : (cells.set i (D.slice true k n (putNav cs1 (p2 :: ps) d')))[i]? = some (D.slice true k n (putNav cs1 (p2 :: ps) d')) := by simp [hlen]
            have h2 : w'.cell? ⟨bb.1, bb.2 + i, none⟩ = some v1 := by rw [hc' i hlt]; rw [List.getElem?_eq_getElem hlt] at hv1; exact hv1
            rw [h1, h2] at hl
            rw [hp, hcv]
            subst hva
            cases q with
            | nil => simpa [navNode] using hl
            | cons j q =>
            simp only [navNode] at hl ⊢
            refine g6 w' d' (fun b hb => hh b (by show R b + _ + X2 b ≠ 0; omega)) (fun j hj => ?_) hq (j :: q) l hl
            have hbk := hb.cells j hj
            have hhb := hh ad.block (by simp)
            simpa [World.cell?, hhb] using hbk
          · have h1 : (cells.set p (D.slice true k n (putNav cs1 (p2 :: ps) d')))[i]? = cells[i]? := by rw [List.getElem?_set]; simp [Ne.symm hi]
            rw [h1] at hl
            cases hci : cells[i]? with
            | none => simp [hci] at hl
            | some di =>
              rw [hci] at hl
              by_cases hli : i < vs.length
              · rw [hc' i hli] at hl
                rw [hc i hli]
                have hget := (RelL.get (hset w F L0 .undef v1 (fun _ => 0) ((Keep.refl _ _ _)) (LocLe.refl _) (by unfold Rel; exact Zero.of_zero)) (i := i) (d := di) (by rw [List.getElem?_set]; simp [Ne.symm hi, hci]))
                obtain ⟨vi, Y1, Y2, hvi, hri, hY, _⟩ := hget
                have hvi' : vi = vs[i] := by rw [hvs, List.getElem?_eq_getElem hli] at hvi; simpa using hvi.symm
                subst hvi'
                exact navNode_keep hri (fun b hb => hh b (by have h9 := hY b; simp only [Nat.zero_add] at h9; show R b + _ + X2 b ≠ 0; omega)) q l hl
              · have hlen2 := hr.length
                have hlen3 : i < cells.length := by rcases Nat.lt_or_ge i cells.length with h | h; exact h; simp [List.getElem?_eq_none h] at hci
                omega
end Av
namespace Av
open Go

def FOK (w : World) (F : FZ) : Prop := ∀ b o, F b o → (w.cell? ⟨b, o, none⟩).isSome
def MsLe (ms ms' : Ms) : Prop := ∀ (r : Nat) (m : Option (Nat × Nat) × Nat), ms[r]? = some m → ∃ n, ms'[r]? = some (m.1, n)
theorem MsLe.refl (ms : Ms) : MsLe ms ms := fun _ m h => ⟨m.2, h⟩
theorem MsLe.trans {a b c : Ms} (h : MsLe a b) (k : MsLe b c) : MsLe a c := fun r m hm => by
  obtain ⟨n, hn⟩ := h r m hm
  exact k r (m.1, n) hn
theorem MsLe.push (ms : Ms) (x : Option (Nat × Nat) × Nat) : MsLe ms (ms ++ [x]) := fun r m h => by
  have : r < ms.length := by rcases Nat.lt_or_ge r ms.length with h' | h'; exact h'; simp [List.getElem?_eq_none h'] at h
  exact ⟨m.2, by rw [List.getElem?_append_left this]; exact h⟩
theorem MsLe.set {ms : Ms} {r : Nat} {m : Option (Nat × Nat) × Nat} (h : ms[r]? = some m) (n : Nat) : MsLe ms (ms.set r (m.1, n)) := fun r' m' h' => by
  by_cases hr : r = r'
  · subst hr
    rw [h] at h'
    have : m = m' := by simpa using h'
    subst this
    have : r < ms.length := by rcases Nat.lt_or_ge r ms.length with h' | h'; exact h'; simp [List.getElem?_eq_none h'] at h
    exact ⟨n, by simp [this]⟩
  · exact ⟨m'.2, by rw [List.getElem?_set]; simp [hr, h']⟩

mutual
theorem Rel.lt {w : World} {F : FZ} {fm : Nat → Nat} : ∀ {L : Loc} {d : D} {v : Value} {X : Cnt} {b : Nat}, Rel w F fm L d v X → X b ≠ 0 → b < w.heap.size
  | _, .undef, _, _, b, h, hb => by unfold Rel at h; exact absurd (h b) hb
  | _, .bool _, _, _, b, h, hb => by unfold Rel at h; exact absurd (h.2 b) hb
  | _, .int _ _, _, _, b, h, hb => by unfold Rel at h; exact absurd (h.2 b) hb
  | _, .str _, _, _, b, h, hb => by unfold Rel at h; exact absurd (h.2 b) hb
  | _, .slice false _ _ _, _, _, b, h, hb => by unfold Rel at h; exact absurd (h.1 b) hb
  | _, .slice true k n cells, _, X, b, h, hb => by
    unfold Rel at h
    obtain ⟨hl, a, cap, hv, hc, h | ⟨ad, vs, Y, ha, hs, ho, hbk, hr, hF, hX⟩⟩ := h
    · exact absurd (h.2.2 b) hb
    · by_cases hbb : b = ad.block
      · subst hbb
        obtain ⟨c, e, z, h1, _⟩ := hbk
        exact (Array.getElem?_eq_some_iff.1 h1).1
      · exact RelL.lt hr (by have := hX b; simp [hbb] at this; omega)
  | _, .ref _ _ _ _ _ _, _, _, b, h, hb => by unfold Rel at h; exact absurd (h.1 b) hb
  | _, .addr _ _ _ _, _, _, b, h, hb => by unfold Rel at h; exact absurd (h.1 b) hb
  | _, .faddr _ _, _, _, b, h, hb => by unfold Rel at h; exact absurd (h.1 b) hb
  | _, .agg _, _, _, b, h, hb => by unfold Rel at h; obtain ⟨vs, _, hr⟩ := h; exact RelL.lt hr hb
  | _, .tup _, _, _, b, h, hb => by unfold Rel at h; obtain ⟨vs, _, hr⟩ := h; exact RelL.lt hr hb
  | _, .fn _ _, _, _, b, h, hb => by unfold Rel at h; exact absurd (h.1 b) hb
theorem RelL.lt {w : World} {F : FZ} {fm : Nat → Nat} : ∀ {L : Loc} {ds : List D} {vs : List Value} {X : Cnt} {b : Nat}, RelL w F fm L ds vs X → X b ≠ 0 → b < w.heap.size
  | _, [], _, _, b, h, hb => by unfold RelL at h; exact absurd (h.2 b) hb
  | _, d :: ds, _, X, b, h, hb => by
    unfold RelL at h
    obtain ⟨v, vs', X1, X2, _, h1, h2, hX⟩ := h
    by_cases h0 : X1 b = 0
    · exact RelL.lt h2 (by rw [hX] at hb; omega)
    · exact Rel.lt h1 h0
end

theorem RowAt.lt {w F fm row m Y} {b : Nat} (h : RowAt w F fm row m Y) (hb : Y b ≠ 0) : b < w.heap.size := by
  match m, h with
  | none, h => exact absurd (h.2 b) hb
  | some (b', base), ⟨vs, X, h1, h2, h3, h4, h5⟩ =>
    by_cases hbb : b = b'
    · subst hbb
      obtain ⟨c, e, z, h1, _⟩ := h2
      exact (Array.getElem?_eq_some_iff.1 h1).1
    · exact h3.lt (by have := h5 b; simp [hbb] at this; omega)

theorem RowsRel.lt {w F fm} : ∀ {rows : Rows} {ms : Ms} {X : Cnt} {b : Nat}, RowsRel w F fm rows ms X → X b ≠ 0 → b < w.heap.size
  | [], _, _, b, h, hb => by unfold RowsRel at h; exact absurd (h.2 b) hb
  | r :: rs, ms, X, b, h, hb => by
    unfold RowsRel at h
    obtain ⟨m, ms', X1, X2, rfl, h1, h2, hX⟩ := h
    by_cases h0 : X1 b = 0
    · exact RowsRel.lt h2 (by rw [hX] at hb; omega)
    · match r, h1 with
      | none, h1 => exact absurd (h1 b) h0
      | some row, h1 => exact h1.2.lt h0

/-- What a part of a run does: X counts the blocks that were its own. -/
structure Ext (w : World) (F : FZ) (L : Loc) (X : Cnt) (w' : World) (F' : FZ) (L' : Loc) (X' : Cnt) : Prop where
  cell : ∀ b o, F b o → w'.cell? ⟨b, o, none⟩ = w.cell? ⟨b, o, none⟩
  sub : ∀ b o, F b o → F' b o
  new : ∀ b o, F' b o → F b o ∨ X b ≠ 0 ∨ w.heap.size ≤ b
  own : ∀ b, X' b ≠ 0 → X b ≠ 0 ∨ w.heap.size ≤ b
  same : ∀ b, b < w.heap.size → X b = 0 → w'.heap[b]? = w.heap[b]?
  has : ∀ b n, Has w b n → Has w' b n
  os : w'.os = w.os
  tape : w'.tape = w.tape
  output : w'.output = w.output
  size : w.heap.size ≤ w'.heap.size
  loc : LocLe L L'

theorem Ext.refl (w : World) (F : FZ) (L : Loc) (X : Cnt) : Ext w F L X w F L X :=
  ⟨fun _ _ _ => rfl, fun _ _ h => h, fun _ _ h => .inl h, fun _ h => .inl h, fun _ _ _ => rfl, fun _ _ h => h, rfl, rfl, rfl, Nat.le_refl _, LocLe.refl _⟩

theorem Ext.trans {w F L X w1 F1 L1 X1 w2 F2 L2 X2} (h : Ext w F L X w1 F1 L1 X1) (k : Ext w1 F1 L1 X1 w2 F2 L2 X2) : Ext w F L X w2 F2 L2 X2 where
  cell b o hb := (k.cell b o (h.sub b o hb)).trans (h.cell b o hb)
  sub b o hb := k.sub b o (h.sub b o hb)
  new b o hb := by
    rcases k.new b o hb with hb | hb | hb
    · exact h.new b o hb
    · exact .inr (h.own b hb)
    · exact .inr (.inr (Nat.le_trans h.size hb))
  own b hb := by
    rcases k.own b hb with hb | hb
    · exact h.own b hb
    · exact .inr (Nat.le_trans h.size hb)
  same b hb hX := by
    have h1 : X1 b = 0 := by
      rcases Nat.eq_zero_or_pos (X1 b) with h0 | h0
      · exact h0
      · rcases h.own b (by omega) with h' | h' <;> omega
    exact (k.same b (Nat.lt_of_lt_of_le hb h.size) h1).trans (h.same b hb hX)
  has b n hb := k.has b n (h.has b n hb)
  os := k.os.trans h.os
  tape := k.tape.trans h.tape
  output := k.output.trans h.output
  size := Nat.le_trans h.size k.size
  loc := h.loc.trans k.loc

/-- Another count of the same blocks. -/
theorem Ext.count {w F L X w' F' L' X' Y Y'} (h : Ext w F L X w' F' L' X') (hX : ∀ b, X b ≠ 0 → Y b ≠ 0) (hX' : ∀ b, Y' b ≠ 0 → X' b ≠ 0 ∨ Y b ≠ 0 ∨ w.heap.size ≤ b) : Ext w F L Y w' F' L' Y' :=
  { h with
    new := fun b o hb => (h.new b o hb).imp id fun h => h.imp (hX b) id
    own := fun b hb => by
      rcases hX' b hb with hb | hb | hb
      · exact (h.own b hb).imp (hX b) id
      · exact .inl hb
      · exact .inr hb
    same := fun b hb hy => h.same b hb (by
      rcases Nat.eq_zero_or_pos (X b) with h0 | h0
      · exact h0
      · exact absurd hy (hX b (by omega))) }

theorem Ext.keep {w F L X w' F' L' X'} {Z : Cnt} (h : Ext w F L X w' F' L' X') (hZ : ∀ b, Z b ≠ 0 → X b = 0 ∧ b < w.heap.size) : Keep w F w' F' Z where
  cell := h.cell
  own b hb := h.same b (hZ b hb).2 (hZ b hb).1
  sub := h.sub
  not b o hb hF := by
    rcases h.new b o hF with h' | h' | h'
    · exact h'
    · exact absurd (hZ b hb).1 h'
    · exact absurd (hZ b hb).2 (by omega)
  has := h.has

theorem Ext.keep0 {w F L X w' F' L' X'} (h : Ext w F L X w' F' L' X') : Keep w F w' F' (fun _ => 0) := h.keep fun _ hb => absurd rfl hb

/-- A value without blocks of its own goes through. -/
theorem Ext.rel {w F L X w' F' L' X' fm d v} (h : Ext w F L X w' F' L' X') (hr : Rel w F fm L d v (fun _ => 0)) : Rel w' F' fm L' d v (fun _ => 0) := hr.keep h.keep0 h.loc
theorem Ext.relL {w F L X w' F' L' X' fm d v} (h : Ext w F L X w' F' L' X') (hr : RelL w F fm L d v (fun _ => 0)) : RelL w' F' fm L' d v (fun _ => 0) := hr.keep h.keep0 h.loc

theorem RowsRel.ver {w F fm} {rows : Rows} {ms : Ms} {X : Cnt} {r : Nat} {row : Row} (h : RowsRel w F fm rows ms X) (hr : rows[r]? = some (some row)) : ∃ m, ms[r]? = some m ∧ row.ver = m.2 := by
  obtain ⟨m, _, _, hm, hv, _⟩ := h.take hr
  exact ⟨m, hm, hv⟩

theorem theRow_set_ne {rows : Rows} {r r' : Nat} {x : Option Row} (h : r ≠ r') : theRow (rows.set r x) r' = theRow rows r' := by
  unfold theRow; rw [List.getElem?_set]; simp [h]
theorem theRow_of {rows : Rows} {r : Nat} {row : Row} (h : rows[r]? = some (some row)) : theRow rows r = some row := by unfold theRow; rw [h]

theorem mkLoc_le {w w' : World} {F : FZ} {fm : Nat → Nat} {rows rows' : Rows} {ms ms' : Ms} {X : Cnt} (hrel : RowsRel w F fm rows ms X) (hlen : rows.length ≤ rows'.length) (hms : MsLe ms ms')
    (hcur : ∀ (r : Nat) (m m' : Option (Nat × Nat) × Nat), ms[r]? = some m → ms'[r]? = some m' → m.2 ≤ m'.2)
    (hrow : ∀ r row', r < rows.length → theRow rows' r = some row' → ∃ row, theRow rows r = some row ∧ row.ver ≤ row'.ver ∧
      (row'.ver = row.ver → ∀ m bb p ps l, ms[r]? = some m → m.1 = some bb → navC w' row'.cells bb (p :: ps) = some l → navC w row.cells bb (p :: ps) = some l)) :
    LocLe (mkLoc w rows ms) (mkLoc w' rows' ms') := by
  refine ⟨fun r hr => Nat.lt_of_lt_of_le hr hlen, fun r hr => ?_, fun r p n l hr hn hl => ?_⟩
  · have hr' : r < ms.length := by rw [hrel.length]; exact hr
    have hm : ms[r]? = some ms[r] := List.getElem?_eq_getElem hr'
    obtain ⟨n, hn⟩ := hms r _ hm
    simp only [mkLoc, hm, hn]
    exact hcur r _ _ hm hn
  · simp only [mkLoc] at hl hn hr ⊢
    unfold locAt at hl ⊢
    split at hl
    case h_2 => simp at hl
    rename_i row' m' hrow' hm'
    obtain ⟨row, h1, h2, h3⟩ := hrow r row' hr hrow'
    obtain ⟨m, hm, hv⟩ := hrel.ver (theRow_eq h1)
    obtain ⟨k, hk⟩ := hms r m hm
    rw [hk] at hm'
    have hm1 : m'.1 = m.1 := by have : (m.1, k) = m' := by simpa using hm'
                                rw [← this]
    rw [h1, hm]
    match p, hn, hl with
    | [], _, hl => simpa [hm1] using hl
    | p :: ps, hn, hl =>
      have hn' := hn (by simp)
      simp only [hm, Option.map_some, Option.getD_some] at hn'
      simp only at hl ⊢
      split at hl
      case isFalse => simp at hl
      rename_i hv'
      have hvv : row'.ver = row.ver := by omega
      have : n = row.ver := by omega
      rw [if_pos this]
      rw [hm1] at hl
      cases hbb : m.1 with
      | none => simp [hbb] at hl
      | some bb =>
        rw [hbb] at hl
        cases hx : navC w' row'.cells bb (p :: ps) with
        | none => simp [hx] at hl
        | some x =>
          have := h3 hvv m bb p ps x hm hbb hx
          simp only [hx] at hl
          simp only [this]
          exact hl

theorem navC_keep {w w' : World} {F : FZ} {fm : Nat → Nat} {cells : List D} {vs : List Value} {X : Cnt} {bb : Nat × Nat} (hr : RelL w F fm L0 cells vs X)
    (hc : ∀ j (h : j < vs.length), w.cell? ⟨bb.1, bb.2 + j, none⟩ = some vs[j]) (hc' : ∀ j (h : j < vs.length), w'.cell? ⟨bb.1, bb.2 + j, none⟩ = some vs[j])
    (hh : ∀ b, X b ≠ 0 → w'.heap[b]? = w.heap[b]?) : ∀ q l, navC w' cells bb q = some l → navC w cells bb q = some l := by
  intro q l hl
  match q, hl with
  | [], hl => simp [navC] at hl
  | i :: q, hl =>
    rw [navC_cons] at hl ⊢
    cases hci : cells[i]? with
    | none => simp [hci] at hl
    | some di =>
      rw [hci] at hl
      obtain ⟨vi, Y1, Y2, hvi, hri, hY, _⟩ := hr.get hci
      have hli : i < vs.length := by rcases Nat.lt_or_ge i vs.length with h | h; exact h; simp [List.getElem?_eq_none h] at hvi
      rw [hc' i hli] at hl
      rw [hc i hli]
      have hvi' : vi = vs[i] := by rw [List.getElem?_eq_getElem hli] at hvi; simpa using hvi.symm
      subst hvi'
      exact navNode_keep hri (fun b hb => hh b (by rw [hY]; omega)) q l hl

theorem RowAt.nav {w w' : World} {F : FZ} {fm : Nat → Nat} {row : Row} {bb : Nat × Nat} {Y : Cnt} (h : RowAt w F fm row (some bb) Y) (hh : ∀ b, Y b ≠ 0 → w'.heap[b]? = w.heap[b]?) :
    ∀ q l, navC w' row.cells bb q = some l → navC w row.cells bb q = some l := by
  obtain ⟨b, base⟩ := bb
  obtain ⟨vs, X, h1, h2, h3, h4, h5⟩ := h
  refine navC_keep h3 h2.cells (fun j hj => ?_) fun c hc => hh c (by rw [h5]; omega)
  have := h2.cells j hj
  have hb := hh b (by rw [h5]; simp)
  simpa [World.cell?, hb] using this

/-- Own slices no longer lead anywhere once they are shared. -/
theorem navC_share {w : World} {cells : List D} {bb : Nat × Nat} : ∀ p ps, navC w (shareL cells) bb (p :: ps) = none := by
  intro p ps
  have hget : ∀ (l : List D) (i : Nat), (shareL l)[i]? = (l[i]?).map shareD := by
    intro l
    induction l with
    | nil => intro i; simp [shareL]
    | cons d l ih =>
      intro i
      rw [shareL]
      cases i with
      | zero => simp
      | succ i => simpa using ih i
  rw [navC]
  rw [hget]
  cases cells[p]? with
  | none => rfl
  | some d => cases d <;> simp only [Option.map_some, shareD]

theorem RelL.take_drop {w F fm L} {cs : List D} {vs : List Value} {X : Cnt} (i : Nat) (h : RelL w F fm L cs vs X) :
    ∃ X1 X2, RelL w F fm L (cs.take i) (vs.take i) X1 ∧ RelL w F fm L (cs.drop i) (vs.drop i) X2 ∧ ∀ b, X b = X1 b + X2 b := by
  have hl := h.length
  rw [← List.take_append_drop i cs] at h
  obtain ⟨us, ws, X1, X2, rfl, h1, h2, hX⟩ := h.split
  have hu := h1.length
  have : us.length = min i cs.length := by rw [hu, List.length_take]
  have e1 : (us ++ ws).take i = us := by
    rcases Nat.le_total i cs.length with h' | h'
    · rw [List.take_append_of_le_length (by omega), List.take_of_length_le (by omega)]
    · have hw := h2.length
      simp [List.drop_eq_nil_of_le h'] at hw
      subst hw
      rw [List.append_nil, List.take_of_length_le (by omega)]
  have e2 : (us ++ ws).drop i = ws := by
    rcases Nat.le_total i cs.length with h' | h'
    · have : us.length = i := by omega
      rw [← this, List.drop_left]
    · have hw := h2.length
      simp [List.drop_eq_nil_of_le h'] at hw
      subst hw
      simp; omega
  exact ⟨X1, X2, by rw [e1]; exact h1, by rw [e2]; exact h2, hX⟩

def cutL {α : Type} (l : List α) (off len : Nat) : List α := (l.drop off).take len

theorem RelL.cut {w F fm L} {cs : List D} {vs : List Value} {X : Cnt} (off len : Nat) (h : RelL w F fm L cs vs X) :
    ∃ X1, RelL w F fm L (cut cs off len) (cutL vs off len) X1 ∧ ∀ b, X1 b ≤ X b := by
  obtain ⟨X1, X2, _, h2, hX⟩ := h.take_drop off
  obtain ⟨Y1, Y2, h3, _, hY⟩ := h2.take_drop len
  exact ⟨Y1, h3, fun b => by have := hX b; have := hY b; omega⟩

theorem RelL.cut0 {w F fm L} {cs : List D} {vs : List Value} (off len : Nat) (h : RelL w F fm L cs vs (fun _ => 0)) : RelL w F fm L (Av.cut cs off len) (cutL vs off len) (fun _ => 0) := by
  obtain ⟨X1, h1, h2⟩ := h.cut off len
  exact h1.congr fun b => by have := h2 b; omega

theorem cut_length {cs : List D} {off len : Nat} (h : off + len ≤ cs.length) : (cut cs off len).length = len := by simp [cut]; omega
theorem cutL_length {α : Type} {cs : List α} {off len : Nat} (h : off + len ≤ cs.length) : (cutL cs off len).length = len := by simp [cutL]; omega
theorem cutL_get {α : Type} {cs : List α} {off len j : Nat} (h : j < (cutL cs off len).length) : ∃ h' : off + j < cs.length, (cutL cs off len)[j] = cs[off + j] := by
  simp [cutL] at h
  exact ⟨by omega, by simp [cutL]⟩
theorem One.cut {vs : List Value} (h : One vs) (off len : Nat) : One (cutL vs off len) := fun v hv => h v (by
  simp only [cutL] at hv
  exact List.mem_of_mem_drop (List.mem_of_mem_take hv))
theorem One.take {vs : List Value} (h : One vs) (n : Nat) : One (vs.take n) := fun v hv => h v (List.mem_of_mem_take hv)
end Av
namespace Av
open Go

theorem shareNav_length : ∀ (path : List Nat) (cells : List D), (shareNav cells path).length = cells.length
  | [], _ => rfl
  | p :: ps, cells => by
    unfold shareNav
    split
    · split <;> simp
    · rfl

theorem setNav_cons {cells cs new : List D} {p : Nat} {ps : List Nat} {k n : Nat} (h : cells[p]? = some (.slice true k n cs)) : setNav cells (p :: ps) new = cells.set p (.slice true k n (setNav cs ps new)) := by
  rw [setNav, h]
theorem putNav_cons {cells cs : List D} {d : D} {p q : Nat} {ps : List Nat} {k n : Nat} (h : cells[p]? = some (.slice true k n cs)) : putNav cells (p :: q :: ps) d = cells.set p (.slice true k n (putNav cs (q :: ps) d)) := by
  rw [putNav, h]; simp

theorem shareNav_put {k2 n2 : Nat} : ∀ (path : List Nat) (cells cs : List D), path ≠ [] → nav cells path = some cs → (∀ cs', setNav cells path cs' = putNav cells path (.slice true k2 n2 cs')) →
    shareNav cells path = putNav cells path (.slice false k2 n2 (shareL cs))
  | [], _, _, h, _, _ => absurd rfl h
  | [p], cells, cs, _, hn, hs => by
    unfold nav at hn
    split at hn
    case h_2 => simp at hn
    rename_i k n cs1 hp
    simp [nav] at hn
    subst hn
    have h1 := hs []
    simp only [setNav, putNav, hp] at h1
    have h2 := congrArg (fun l => l[p]?) h1
    have hlt : p < cells.length := by rcases Nat.lt_or_ge p cells.length with h | h; exact h; simp [List.getElem?_eq_none h] at hp
    simp [hlt] at h2
    simp only [shareNav, putNav, hp, h2.1, h2.2]
  | p :: q :: ps, cells, cs, _, hn, hs => by
    unfold nav at hn
    split at hn
    case h_2 => simp at hn
    rename_i k n cs1 hp
    have hlt : p < cells.length := by rcases Nat.lt_or_ge p cells.length with h | h; exact h; simp [List.getElem?_eq_none h] at hp
    have ih := shareNav_put (k2 := k2) (n2 := n2) (q :: ps) cs1 cs (by simp) hn (fun cs' => by
      have h1 := hs cs'
      rw [setNav_cons hp, putNav_cons hp] at h1
      have h2 := congrArg (fun l => l[p]?) h1
      simpa [hlt] using h2)
    rw [shareNav]
    simp only [hp, putNav]
    rw [ih]

/-- Everything in the blocks counted by Y is shared from now on. -/
def frz (w : World) (F : FZ) (Y : Cnt) : FZ := fun b o => F b o ∨ (Y b ≠ 0 ∧ (w.cell? ⟨b, o, none⟩).isSome)
theorem frz_froze (w : World) (F : FZ) (Y : Cnt) : Froze w F (frz w F Y) Y := ⟨fun _ _ h => .inl h, fun _ _ h k => .inr ⟨h, k⟩⟩
theorem frz_ok {w : World} {F : FZ} {Y : Cnt} (h : FOK w F) : FOK w (frz w F Y) := fun b o hb => hb.elim (h b o) (·.2)
theorem frz_keep {w : World} {F : FZ} {Y Z : Cnt} (h : ∀ b, Z b ≠ 0 → Y b = 0) : Keep w F w (frz w F Y) Z :=
  ⟨fun _ _ _ => rfl, fun _ _ => rfl, fun _ _ h => .inl h, fun b _ hb hF => hF.elim id fun hf => absurd (h b hb) hf.1, fun _ _ h => h⟩

/-- A step of the frame that leaves the world alone. -/
theorem Ext.still {w : World} {F F' : FZ} {L L' : Loc} {X X' : Cnt} (sub : ∀ b o, F b o → F' b o) (new : ∀ b o, F' b o → F b o ∨ X b ≠ 0) (own : ∀ b, X' b ≠ 0 → X b ≠ 0) (loc : LocLe L L') : Ext w F L X w F' L' X' :=
  ⟨fun _ _ _ => rfl, sub, fun b o h => (new b o h).imp id .inl, fun b h => .inl (own b h), fun _ _ _ => rfl, fun _ _ h => h, rfl, rfl, rfl, Nat.le_refl _, loc⟩

theorem mkLoc_set {w : World} {F : FZ} {fm : Nat → Nat} {rows : Rows} {ms : Ms} {X : Cnt} {r : Nat} {row row' : Row} {m : Option (Nat × Nat) × Nat} (hrel : RowsRel w F fm rows ms X) (hr : rows[r]? = some (some row)) (hm : ms[r]? = some m)
    (hv : row.ver ≤ row'.ver) (hmv : row.ver = m.2) (hnav : row'.ver = row.ver → ∀ bb p ps l, m.1 = some bb → navC w row'.cells bb (p :: ps) = some l → navC w row.cells bb (p :: ps) = some l) :
    LocLe (mkLoc w rows ms) (mkLoc w (rows.set r (some row')) (ms.set r (m.1, row'.ver))) := by
  refine mkLoc_le hrel (by simp) (MsLe.set hm _) (fun r2 m1 m2 h1 h2 => ?_) (fun r2 row2 hr2 h2 => ?_)
  · by_cases h : r = r2
    · subst h
      rw [hm] at h1
      have hlt : r < ms.length := by rcases Nat.lt_or_ge r ms.length with h' | h'; exact h'; simp [List.getElem?_eq_none h'] at hm
      simp [hlt] at h1 h2
      subst h1 h2
      show m.2 ≤ row'.ver
      omega
    · rw [List.getElem?_set] at h2
      simp [h] at h2
      rw [h1] at h2
      have : m1 = m2 := by simpa using h2
      subst this
      exact Nat.le_refl _
  · by_cases h : r = r2
    · subst h
      have : theRow (rows.set r (some row')) r = some row' := theRow_of (by simp [hr2])
      rw [this] at h2
      have : row' = row2 := by simpa using h2
      subst this
      refine ⟨row, theRow_of hr, hv, fun hvv m' bb p ps l hm' hbb hl => ?_⟩
      rw [hm] at hm'
      have : m = m' := by simpa using hm'
      subst this
      exact hnav hvv bb p ps l hbb hl
    · rw [theRow_set_ne h] at h2
      exact ⟨row2, h2, Nat.le_refl _, fun _ _ _ _ _ _ _ _ h => h⟩

theorem mkLoc_none {w : World} {F : FZ} {fm : Nat → Nat} {rows : Rows} {ms : Ms} {X : Cnt} (hrel : RowsRel w F fm rows ms X) (r : Nat) : LocLe (mkLoc w rows ms) (mkLoc w (rows.set r none) ms) := by
  refine mkLoc_le hrel (by simp) (MsLe.refl _) (fun r2 m1 m2 h1 h2 => ?_) (fun r2 row2 hr2 h2 => ?_)
  · rw [h1] at h2
    have : m1 = m2 := by simpa using h2
    subst this; exact Nat.le_refl _
  · by_cases h : r = r2
    · subst h
      unfold theRow at h2
      rw [List.getElem?_set] at h2
      simp [hr2] at h2
    · rw [theRow_set_ne h] at h2
      exact ⟨row2, h2, Nat.le_refl _, fun _ _ _ _ _ _ _ _ h => h⟩

theorem mkLoc_push {w : World} {F : FZ} {fm : Nat → Nat} {rows : Rows} {ms : Ms} {X : Cnt} (hrel : RowsRel w F fm rows ms X) (x : Option Row) (y : Option (Nat × Nat) × Nat) : LocLe (mkLoc w rows ms) (mkLoc w (rows ++ [x]) (ms ++ [y])) := by
  refine mkLoc_le hrel (by simp) (MsLe.push _ _) (fun r2 m1 m2 h1 h2 => ?_) (fun r2 row2 hr2 h2 => ?_)
  · have hlt : r2 < ms.length := by rcases Nat.lt_or_ge r2 ms.length with h' | h'; exact h'; simp [List.getElem?_eq_none h'] at h1
    rw [List.getElem?_append_left hlt, h1] at h2
    have : m1 = m2 := by simpa using h2
    subst this; exact Nat.le_refl _
  · have : theRow (rows ++ [x]) r2 = theRow rows r2 := by unfold theRow; rw [List.getElem?_append_left hr2]
    rw [this] at h2
    exact ⟨row2, h2, Nat.le_refl _, fun _ _ _ _ _ _ _ _ h => h⟩

theorem cellsAt_top {rows : Rows} {r ver : Nat} {x : Row × List D} (h : cellsAt rows r [] ver = some x) : ∃ row, rows[r]? = some (some row) ∧ x = (row, row.cells) := by
  unfold cellsAt at h
  split at h
  case h_1 => simp at h
  rename_i row hrow
  exact ⟨row, theRow_eq hrow, by simpa using h.symm⟩

theorem cellsAt_nest {rows : Rows} {r p : Nat} {ps : List Nat} {ver : Nat} {x : Row × List D} (h : cellsAt rows r (p :: ps) ver = some x) :
    ∃ row, rows[r]? = some (some row) ∧ ver = row.ver ∧ nav row.cells (p :: ps) = some x.2 ∧ x.1 = row := by
  unfold cellsAt at h
  split at h
  case h_1 => simp at h
  rename_i row hrow
  simp only at h
  split at h
  case isFalse => simp at h
  rename_i hv
  simp only [Option.map_eq_some_iff] at h
  obtain ⟨cs, hcs, rfl⟩ := h
  exact ⟨row, theRow_eq hrow, hv, hcs, rfl⟩

/-- What a ref says at the top of a row that lies there. -/
theorem Rel.ref_top {w : World} {F : FZ} {fm : Nat → Nat} {rows : Rows} {ms : Ms} {r ver off n k : Nat} {v : Value} {Y : Cnt} {row : Row} {m : Option (Nat × Nat) × Nat}
    (h : Rel w F fm (mkLoc w rows ms) (.ref r [] ver off n k) v Y) (hr : rows[r]? = some (some row)) (hm : ms[r]? = some m) :
    Zero Y ∧ ∃ a cap, v = .slice a n cap ∧ n ≤ cap ∧ match m.1 with
      | none => cap = 0
      | some (b, base) => cap = 0 ∨ (a = some ⟨b, base + off, none⟩ ∧ Has w b (base + off + cap * k)) := by
  unfold Rel at h
  obtain ⟨hz, _, _, a, cap, hv, hc, h⟩ := h
  refine ⟨hz, a, cap, hv, hc.1, ?_⟩
  have : (mkLoc w rows ms).at_ r [] ver = some m.1 := by simp [mkLoc, locAt, theRow_of hr, hm]
  exact h _ this

theorem Rel.ref_nest {w : World} {F : FZ} {fm : Nat → Nat} {rows : Rows} {ms : Ms} {r p : Nat} {ps : List Nat} {off n k : Nat} {v : Value} {Y : Cnt} {row : Row} {m : Option (Nat × Nat) × Nat} {bb : Nat × Nat} {v2 : Value}
    (h : Rel w F fm (mkLoc w rows ms) (.ref r (p :: ps) row.ver off n k) v Y) (hr : rows[r]? = some (some row)) (hm : ms[r]? = some m) (hbb : m.1 = some bb) (hv2 : navC w row.cells bb (p :: ps) = some v2) :
    Zero Y ∧ ∃ a cap, v = .slice a n cap ∧ n ≤ cap ∧ ∀ loc, locV v2 = some loc → match loc with
      | none => cap = 0
      | some (b, base) => cap = 0 ∨ (a = some ⟨b, base + off, none⟩ ∧ Has w b (base + off + cap * k)) := by
  unfold Rel at h
  obtain ⟨hz, _, _, a, cap, hv, hc, h⟩ := h
  refine ⟨hz, a, cap, hv, hc.1, fun loc hn => ?_⟩
  have : (mkLoc w rows ms).at_ r (p :: ps) row.ver = some loc := by simp [mkLoc, locAt, theRow_of hr, hm, hbb, hv2, hn]
  exact h _ this

/-- Where a slice that has cells lies. -/
theorem locV_some {ad : Addr} {n c : Nat} (h : 0 < c) : locV (.slice (some ad) n c) = some (some (ad.block, ad.off)) := by
  simp [locV]; omega

/-- A shared piece of cells that lie in F. -/
theorem Rel.shared_cut {w : World} {F : FZ} {fm : Nat → Nat} {cells : List D} {vs : List Value} {b base off n k cap : Nat} {a : Option Addr} (hr : RelL w F fm L0 cells vs (fun _ => 0)) (ho : One vs)
    (hb : ∀ j (h : j < vs.length), w.cell? ⟨b, base + j, none⟩ = some vs[j]) (hF : ∀ j, off ≤ j → j < off + n * k → j < vs.length → F b (base + j)) (hl : off + n * k ≤ cells.length) (hn : n ≤ cap)
    (ha : cap = 0 ∨ a = some ⟨b, base + off, none⟩) : Rel w F fm L0 (.slice false k n (cut cells off (n * k))) (.slice a n cap) (fun _ => 0) := by
  unfold Rel
  refine ⟨Zero.of_zero, cut_length hl, a, cap, rfl, hn, ?_⟩
  rcases ha with h | h
  · have : n = 0 := by omega
    subst this
    left; simp [cut]
  · right
    refine ⟨⟨b, base + off, none⟩, cutL vs off (n * k), h, rfl, ho.cut _ _, fun j hj => ?_, hr.cut0 off (n * k)⟩
    obtain ⟨h1, h2⟩ := cutL_get hj
    have hlen := cutL_length (cs := vs) (off := off) (len := n * k) (by rw [hr.length]; exact hl)
    have e : base + off + j = base + (off + j) := by omega
    simp only [e]
    exact ⟨by rw [hb _ h1, h2], hF _ (by omega) (by omega) h1⟩

/-- The result of a step on values: what becomes of rows, F and counts. -/
def Stepped1 (w : World) (F : FZ) (fm : Nat → Nat) (rows : Rows) (ms : Ms) (X Y : Cnt) (rows' : Rows) (K : FZ → Cnt → Cnt → Prop) : Prop :=
  ∃ F' ms' X' Y', RowsRel w F' fm rows' ms' X' ∧ K F' X' Y' ∧ Ext w F (mkLoc w rows ms) (fun b => X b + Y b) w F' (mkLoc w rows' ms') (fun b => X' b + Y' b) ∧ MsLe ms ms' ∧ FOK w F' ∧ (∀ b, X' b + Y' b ≤ X b + Y b)

theorem share_top {w : World} {F : FZ} {fm : Nat → Nat} {rows : Rows} {ms : Ms} {X Y : Cnt} {r ver off n k : Nat} {v : Value} {row : Row} (hr : rows[r]? = some (some row)) (hl : off + n * k ≤ row.cells.length)
    (hR : RowsRel w F fm rows ms X) (hd : Rel w F fm (mkLoc w rows ms) (.ref r [] ver off n k) v Y) (hX : ∀ b, X b + Y b ≤ 1) (hF : FOK w F) :
    Stepped1 w F fm rows ms X Y (rows.set r (some { row with cells := shareL row.cells, pub := true, fz := max row.fz (off + n * k) }))
      fun F' _ Y' => Rel w F' fm L0 (.slice false k n (cut (shareL row.cells) off (n * k))) v (fun _ => 0) ∧ Y' = fun _ => 0 := by
  obtain ⟨m, X1, X2, hm, hv, hat, hXs, hrest⟩ := hR.take hr
  obtain ⟨hz, a, cap, hva, hc, hcl⟩ := hd.ref_top hr hm
  have hz' : ∀ b, Y b = 0 := hz
  obtain ⟨m1, m2⟩ := m
  match m1, hat, hcl with
  | none, hat, hcl =>
    have h0 : row.cells = [] := hat.1
    refine ⟨F, ms.set r (none, row.ver), fun b => X1 b + X2 b, fun _ => 0, hrest.put (row := { row with cells := shareL row.cells, pub := true, fz := max row.fz (off + n * k) }) hm ⟨by simp [h0, shareL], hat.2⟩, ⟨?_, rfl⟩, ?_, MsLe.set hm _, hF, fun b => by have := hXs b; have := hz' b; show X1 b + X2 b + 0 ≤ _; omega⟩
    · subst hva
      have hcap : cap = 0 := hcl
      have hn : n = 0 := by omega
      subst hn
      unfold Rel
      exact ⟨Zero.of_zero, by simp [cut], a, cap, rfl, hc, .inl (by simp [cut])⟩
    · refine Ext.still (fun _ _ h => h) (fun _ _ h => .inl h) (fun b h => ?_) (mkLoc_set hR hr hm (Nat.le_refl _) hv fun _ bb p ps l hbb => by simp at hbb)
      have := hXs b
      simp only at h ⊢
      omega
  | some (b, base), hat, hcl =>
    obtain ⟨vs, Xc, ho, hbk, hrl, hFb, hX1⟩ := hat
    let F' : FZ := fun b' o => frz w F Xc b' o ∨ (b' = b ∧ base ≤ o ∧ o < base + (off + n * k) ∧ (w.cell? ⟨b', o, none⟩).isSome)
    have hFF' : ∀ b' o, F b' o → F' b' o := fun b' o h => .inl (.inl h)
    have hfroze : Froze w F F' Xc := ⟨hFF', fun b' o h h' => .inl (.inr ⟨h, h'⟩)⟩
    have hXb : X1 b + X2 b + Y b ≤ 1 := by have := hX b; have := hXs b; omega
    have hX1b : X1 b = Xc b + 1 := by have := hX1 b; simpa using this
    have hkeep : Keep w F w F' X2 := ⟨fun _ _ _ => rfl, fun _ _ => rfl, hFF', fun b' o h0 hf => by
      have h1 := hXs b'; have h2 := hX b'; have h3 := hX1 b'
      rcases hf with (hf | hf) | hf
      · exact hf
      · omega
      · have : b' = b := hf.1
        subst this; simp at h3; omega, fun _ _ h => h⟩
    refine ⟨F', ms.set r (some (b, base), row.ver), fun c => (if c = b then 1 else 0) + X2 c, fun _ => 0, ?_, ⟨?_, rfl⟩, ?_, MsLe.set hm _, fun b' o hf => hf.elim (frz_ok hF b' o) (·.2.2.2), fun c => ?_⟩
    · refine (hrest.keep hkeep).put (row := { row with cells := shareL row.cells, pub := true, fz := max row.fz (off + n * k) }) hm ⟨vs, fun _ => 0, ho, hbk, hrl.share hfroze, fun o hf => ⟨rfl, ?_⟩, fun c => by simp⟩
      show o < base + max row.fz (off + n * k) ∧ o < base + (shareL row.cells).length
      rw [shareL_length]
      rcases hf with (hf | hf) | hf
      · have := (hFb o hf).2; omega
      · omega
      · omega
    · subst hva
      refine Rel.shared_cut (hrl.share hfroze) ho hbk.cells (fun j h1 h2 h3 => .inr ⟨rfl, by omega, by omega, by rw [hbk.cells j h3]; rfl⟩) (by rw [shareL_length]; exact hl) hc (hcl.imp id (·.1))
    · refine Ext.still hFF' (fun b' o hf => ?_) (fun c hc => ?_) (mkLoc_set hR hr hm (Nat.le_refl _) hv fun _ bb p ps l hbb hl => by rw [navC_share] at hl; simp at hl)
      · have h1 := hXs b'; have h3 := hX1 b'
        rcases hf with (hf | hf) | hf
        · exact .inl hf
        · right; omega
        · right; rw [if_pos hf.1] at h3; omega
      · have h1 := hXs c; have h3 := hX1 c
        simp only [Nat.add_zero] at hc
        split at hc <;> simp_all <;> omega
    · have h1 := hXs c; have h3 := hX1 c
      simp only [Nat.add_zero]
      split <;> simp_all <;> omega

theorem share_nest {w : World} {F : FZ} {fm : Nat → Nat} {rows : Rows} {ms : Ms} {X Y : Cnt} {r p : Nat} {ps : List Nat} {off n k : Nat} {v : Value} {row : Row} {cells : List D} (hr : rows[r]? = some (some row))
    (hn : nav row.cells (p :: ps) = some cells) (hl : off + n * k ≤ cells.length)
    (hR : RowsRel w F fm rows ms X) (hd : Rel w F fm (mkLoc w rows ms) (.ref r (p :: ps) row.ver off n k) v Y) (hX : ∀ b, X b + Y b ≤ 1) (hF : FOK w F) :
    Stepped1 w F fm rows ms X Y (rows.set r (some { row with cells := shareNav row.cells (p :: ps) }))
      fun F' _ Y' => Rel w F' fm L0 (.slice false k n (cut (shareL cells) off (n * k))) v (fun _ => 0) ∧ Y' = fun _ => 0 := by
  obtain ⟨m, X1, X2, hm, hv, hat, hXs, hrest⟩ := hR.take hr
  obtain ⟨m1, m2⟩ := m
  match m1, hat with
  | none, hat => rw [hat.1] at hn; simp [nav] at hn
  | some (b, base), hat =>
    obtain ⟨vs, Xc, ho, hbk, hrl, hFb, hX1⟩ := hat
    obtain ⟨k2, n2, v2, Z1, R, g1, g2, g3, g4, g5, g6⟩ := nav_focus (p :: ps) row.cells vs Xc (b, base) cells (by simp) hrl hbk.cells hn
    have hnv : navC w row.cells (b, base) (p :: ps) = some v2 := by
      have := g3 []
      rw [List.append_nil] at this
      rw [this]; rfl
    obtain ⟨hz, a, cap, hva, hc, hcl⟩ := hd.ref_nest hr hm rfl hnv
    have hz' : ∀ b, Y b = 0 := hz
    have hsh := shareNav_put (k2 := k2) (n2 := n2) (p :: ps) row.cells cells (by simp) hn g4
    let F' : FZ := frz w F Z1
    have hX1b : X1 b = Xc b + 1 := by have := hX1 b; simpa using this
    have hZb : Z1 b = 0 ∧ R b = 0 := by have := hX b; have := hXs b; have := g2 b; omega
    have hkeep2 : Keep w F w F' X2 := frz_keep fun c hc => by have := hX c; have := hXs c; have := g2 c; have := hX1 c; omega
    have hkeepR : Keep w F w F' R := frz_keep fun c hc => by have := hX c; have := hXs c; have := g2 c; have := hX1 c; omega
    have hshared : Rel w F' fm L0 (.slice false k2 n2 (shareL cells)) v2 (fun _ => 0) := by
      have := Rel.share (frz_froze w F Z1) g1
      rwa [shareD] at this
    refine ⟨F', ms.set r (some (b, base), row.ver), fun c => R c + (if c = b then 1 else 0) + X2 c, fun _ => 0, ?_, ⟨?_, rfl⟩, ?_, MsLe.set hm _, frz_ok hF, fun c => ?_⟩
    · refine (hrest.keep hkeep2).put (row := { row with cells := shareNav row.cells (p :: ps) }) hm ⟨vs, R, ho, hbk, ?_, fun o hf => ?_, fun c => rfl⟩
      · rw [hsh]
        exact (g5 w F' _ _ hkeepR hshared).congr fun c => by simp
      · show row.pub = true ∧ o < base + row.fz ∧ o < base + (shareNav row.cells (p :: ps)).length
        rw [shareNav_length]
        rcases hf with hf | hf
        · exact hFb o hf
        · exact absurd hZb.1 hf.1
    · subst hva
      unfold Rel at hshared
      obtain ⟨_, hsl, a2, cap2, hv2, hc2, hs2⟩ := hshared
      subst hv2
      by_cases hn0 : n * k = 0
      · unfold Rel
        exact ⟨Zero.of_zero, by rw [cut_length (by rw [shareL_length]; exact hl)], a, cap, rfl, hc, .inl (by rw [hn0]; simp [cut])⟩
      · rcases hs2 with hs2 | ⟨ad, vs2, ha2, hsp, ho2, hsh2, hr2⟩
        · have h0 : (shareL cells).length = 0 := by rw [hs2]; rfl
          rw [shareL_length] at h0; omega
        · subst ha2
          have hcap2 : 0 < cap2 := by
            rcases Nat.eq_zero_or_pos n2 with h0 | h0
            · have : (shareL cells).length = 0 := by rw [hsl, h0]; simp
              rw [shareL_length] at this; omega
            · omega
          exact Rel.shared_cut (b := ad.block) (base := ad.off) hr2 ho2 (fun j hj => (hsh2 j hj).1) (fun j _ _ h => (hsh2 j h).2) (by rw [shareL_length]; exact hl) hc ((hcl _ (locV_some hcap2)).imp id (·.1))
    · refine Ext.still (fun _ _ h => .inl h) (fun b' o hf => ?_) (fun c hc => ?_) (mkLoc_set hR hr hm (Nat.le_refl _) hv fun _ bb p' ps' l hbb hl' => ?_)
      · have h1 := hXs b'; have h3 := hX1 b'; have h4 := g2 b'
        rcases hf with hf | hf
        · exact .inl hf
        · right; omega
      · have h1 := hXs c; have h3 := hX1 c; have h4 := g2 c
        simp only [Nat.add_zero] at hc
        split at hc <;> simp_all <;> omega
      · have hbb' : bb = (b, base) := by simpa using hbb.symm
        subst hbb'
        rw [show ({ row with cells := shareNav row.cells (p :: ps) } : Row).cells = shareNav row.cells (p :: ps) from rfl, hsh] at hl'
        exact g6 w _ (fun _ _ => rfl) hbk.cells (fun q l h => by simp [navNode] at h) _ _ hl'
    · have h1 := hXs c; have h3 := hX1 c; have h4 := g2 c
      simp only [Nat.add_zero]
      split <;> simp_all <;> omega
end Av
namespace Av
open Go

theorem Stepped1.of_same {w : World} {F : FZ} {fm : Nat → Nat} {rows : Rows} {ms : Ms} {X Y : Cnt} {K : FZ → Cnt → Cnt → Prop} (hR : RowsRel w F fm rows ms X) (hF : FOK w F) (h : K F X Y) : Stepped1 w F fm rows ms X Y rows K :=
  ⟨F, ms, X, Y, hR, h, Ext.refl _ _ _ _, MsLe.refl _, hF, fun _ => Nat.le_refl _⟩

theorem Stepped1.imp {w : World} {F : FZ} {fm : Nat → Nat} {rows rows' : Rows} {ms : Ms} {X Y : Cnt} {K K' : FZ → Cnt → Cnt → Prop} (h : Stepped1 w F fm rows ms X Y rows' K) (hk : ∀ F' X' Y', K F' X' Y' → K' F' X' Y') : Stepped1 w F fm rows ms X Y rows' K' := by
  obtain ⟨F', ms', X', Y', h1, h2, h3⟩ := h
  exact ⟨F', ms', X', Y', h1, hk _ _ _ h2, h3⟩

/-- What is kept on the side goes through. -/
theorem Stepped1.tail {w F fm rows ms} {X Y Z : Cnt} {rows' : Rows} {K : FZ → Cnt → Cnt → Prop} (h : Stepped1 w F fm rows ms X Y rows' K) (hX : ∀ b, X b + (Y b + Z b) ≤ 1) (hlt : ∀ b, Z b ≠ 0 → b < w.heap.size) :
    ∃ F' ms' X' Y', RowsRel w F' fm rows' ms' X' ∧ K F' X' Y' ∧ Ext w F (mkLoc w rows ms) (fun b => X b + (Y b + Z b)) w F' (mkLoc w rows' ms') (fun b => X' b + (Y' b + Z b)) ∧ MsLe ms ms' ∧ FOK w F' ∧ (∀ b, X' b + (Y' b + Z b) ≤ X b + (Y b + Z b)) ∧
      Keep w F w F' Z ∧ LocLe (mkLoc w rows ms) (mkLoc w rows' ms') := by
  obtain ⟨F', ms', X', Y', h1, h2, h3, h4, h5, h6⟩ := h
  exact ⟨F', ms', X', Y', h1, h2, h3.count (fun b hb => by omega) (fun b hb => by omega), h4, h5, fun b => by have := h6 b; omega, h3.keep (fun b hb => ⟨by have := hX b; omega, hlt b hb⟩), h3.loc⟩

theorem Rel.zero_eq {w F fm L d v} {X : Cnt} (h : Rel w F fm L d v X) (hz : Zero X) : Rel w F fm L d v (fun _ => 0) := h.congr fun b => (hz b).symm

theorem share_slice {w : World} {F : FZ} {fm : Nat → Nat} {rows : Rows} {ms : Ms} {X Y : Cnt} {L : Loc} {d : D} {v : Value} (hd : Rel w F fm L d v Y) (hR : RowsRel w F fm rows ms X) (hX : ∀ b, X b + Y b ≤ 1) (hF : FOK w F) :
    Stepped1 w F fm rows ms X Y rows fun F' _ Y' => Rel w F' fm L (shareD d) v (fun _ => 0) ∧ Y' = fun _ => 0 := by
  refine ⟨frz w F Y, ms, X, fun _ => 0, hR.keep (frz_keep fun b hb => by have := hX b; omega), ⟨hd.share (frz_froze w F Y), rfl⟩, ?_, MsLe.refl _, frz_ok hF, fun b => by simp⟩
  exact Ext.still (fun _ _ h => .inl h) (fun b o h => h.imp id fun h => by omega) (fun b h => by simp only [Nat.add_zero] at h; omega) (LocLe.refl _)

theorem Rel.l0 {w F fm L d v X} (h : Rel w F fm L d v X) (hd : ∀ L', Rel w F fm L d v X → Rel w F fm L' d v X) : Rel w F fm L0 d v X := hd L0 h

theorem map_some {α β : Type} {f : α → β} {x : Option α} {y : β} (h : x.map f = some y) : ∃ a, x = some a ∧ f a = y := by simpa using h

mutual
theorem shareV_ok {w : World} {F : FZ} {fm : Nat → Nat} : ∀ (d : D) {rows rows' : Rows} {ms : Ms} {X Y : Cnt} {v : Value} {d' : D}, shareV rows d = some (rows', d') → RowsRel w F fm rows ms X → Rel w F fm (mkLoc w rows ms) d v Y →
    (∀ b, X b + Y b ≤ 1) → FOK w F → Stepped1 w F fm rows ms X Y rows' fun F' _ Y' => Rel w F' fm L0 d' v (fun _ => 0) ∧ Y' = fun _ => 0
  | .slice o k n cs, rows, rows', ms, X, Y, v, d', h, hR, hd, hX, hF => by
    simp only [shareV, Option.some.injEq, Prod.mk.injEq] at h
    obtain ⟨rfl, rfl⟩ := h
    refine (share_slice hd hR hX hF).imp fun F' _ Y' hk => ⟨?_, hk.2⟩
    have := hk.1
    rw [shareD] at this
    unfold Rel at this ⊢
    exact this
  | .ref r path ver off n k, rows, rows', ms, X, Y, v, d', h, hR, hd, hX, hF => by
    simp only [shareV] at h
    split at h
    case h_1 => simp at h
    rename_i row cells hc
    split at h
    case isFalse => simp at h
    rename_i hl
    match path, hc, hd, h with
    | [], hc, hd, h =>
      simp only [Option.some.injEq, Prod.mk.injEq] at h
      obtain ⟨rfl, rfl⟩ := h
      obtain ⟨row', hr, he⟩ := cellsAt_top hc
      simp only [Prod.mk.injEq] at he
      obtain ⟨rfl, rfl⟩ := he
      exact share_top hr hl hR hd hX hF
    | p :: ps, hc, hd, h =>
      simp only [Option.some.injEq, Prod.mk.injEq] at h
      obtain ⟨rfl, rfl⟩ := h
      obtain ⟨row', hr, hv, hn, he⟩ := cellsAt_nest hc
      simp only at he hn
      subst he
      subst hv
      exact share_nest hr hn hl hR hd hX hF
  | .agg vs, rows, rows', ms, X, Y, v, d', h, hR, hd, hX, hF => by
    simp only [shareV] at h
    obtain ⟨⟨rs, ds⟩, h1, h2⟩ := map_some h
    simp only [Prod.mk.injEq] at h2
    obtain ⟨rfl, rfl⟩ := h2
    unfold Rel at hd
    obtain ⟨us, hv, hd⟩ := hd
    refine (shareVs_ok vs h1 hR hd hX hF).imp fun F' _ Y' hk => ⟨?_, hk.2⟩
    unfold Rel
    exact ⟨us, hv, hk.1⟩
  | .tup vs, rows, rows', ms, X, Y, v, d', h, hR, hd, hX, hF => by
    simp only [shareV] at h
    obtain ⟨⟨rs, ds⟩, h1, h2⟩ := map_some h
    simp only [Prod.mk.injEq] at h2
    obtain ⟨rfl, rfl⟩ := h2
    unfold Rel at hd
    obtain ⟨us, hv, hd⟩ := hd
    refine (shareVs_ok vs h1 hR hd hX hF).imp fun F' _ Y' hk => ⟨?_, hk.2⟩
    unfold Rel
    exact ⟨us, hv, hk.1⟩
  | .fn g caps, rows, rows', ms, X, Y, v, d', h, hR, hd, hX, hF => by
    simp only [shareV] at h
    split at h
    case h_2 => simp at h
    simp only [Option.some.injEq, Prod.mk.injEq] at h
    obtain ⟨rfl, rfl⟩ := h
    unfold Rel at hd
    obtain ⟨hz, us, hv, hr⟩ := hd
    have hz' : ∀ b, Y b = 0 := hz
    refine Stepped1.of_same hR hF ⟨?_, funext hz'⟩
    unfold Rel
    unfold RelL at hr
    exact ⟨Zero.of_zero, us, hv, by unfold RelL; exact hr⟩
  | .bool b, rows, rows', ms, X, Y, v, d', h, hR, hd, hX, hF => by
    simp only [shareV, Option.some.injEq, Prod.mk.injEq] at h
    obtain ⟨rfl, rfl⟩ := h
    unfold Rel at hd
    exact Stepped1.of_same hR hF ⟨by unfold Rel; exact ⟨hd.1, Zero.of_zero⟩, funext hd.2⟩
  | .int k n, rows, rows', ms, X, Y, v, d', h, hR, hd, hX, hF => by
    simp only [shareV, Option.some.injEq, Prod.mk.injEq] at h
    obtain ⟨rfl, rfl⟩ := h
    unfold Rel at hd
    exact Stepped1.of_same hR hF ⟨by unfold Rel; exact ⟨hd.1, Zero.of_zero⟩, funext hd.2⟩
  | .str s, rows, rows', ms, X, Y, v, d', h, hR, hd, hX, hF => by
    simp only [shareV, Option.some.injEq, Prod.mk.injEq] at h
    obtain ⟨rfl, rfl⟩ := h
    unfold Rel at hd
    exact Stepped1.of_same hR hF ⟨by unfold Rel; exact ⟨hd.1, Zero.of_zero⟩, funext hd.2⟩
  | .undef, _, _, _, _, _, _, _, h, _, _, _, _ => by simp [shareV] at h
  | .addr _ _ _ _, _, _, _, _, _, _, _, h, _, _, _, _ => by simp [shareV] at h
  | .faddr _ _, _, _, _, _, _, _, _, h, _, _, _, _ => by simp [shareV] at h
theorem shareVs_ok {w : World} {F : FZ} {fm : Nat → Nat} : ∀ (ds : List D) {rows rows' : Rows} {ms : Ms} {X Y : Cnt} {vs : List Value} {ds' : List D}, shareVs rows ds = some (rows', ds') → RowsRel w F fm rows ms X → RelL w F fm (mkLoc w rows ms) ds vs Y →
    (∀ b, X b + Y b ≤ 1) → FOK w F → Stepped1 w F fm rows ms X Y rows' fun F' _ Y' => RelL w F' fm L0 ds' vs (fun _ => 0) ∧ Y' = fun _ => 0
  | [], rows, rows', ms, X, Y, vs, ds', h, hR, hd, hX, hF => by
    simp only [shareVs, Option.some.injEq, Prod.mk.injEq] at h
    obtain ⟨rfl, rfl⟩ := h
    unfold RelL at hd
    exact Stepped1.of_same hR hF ⟨by unfold RelL; exact ⟨hd.1, Zero.of_zero⟩, funext hd.2⟩
  | d :: ds, rows, rows', ms, X, Y, vs, ds', h, hR, hd, hX, hF => by
    simp only [shareVs] at h
    split at h
    case h_1 => simp at h
    rename_i rs d1 h1
    split at h
    case h_1 => simp at h
    rename_i rs2 ds2 h2
    simp only [Option.some.injEq, Prod.mk.injEq] at h
    obtain ⟨rfl, rfl⟩ := h
    unfold RelL at hd
    obtain ⟨v, vs', Y1, Y2, rfl, hd1, hd2, hY⟩ := hd
    have hX' : ∀ b, X b + (Y1 b + Y2 b) ≤ 1 := fun b => by have := hX b; have := hY b; omega
    obtain ⟨F1, ms1, X1, Y1', hR1, ⟨hk1, rfl⟩, hE1, hm1, hF1, hle1, hkeep, hloc⟩ := (shareV_ok d h1 hR hd1 (fun b => by have := hX' b; omega) hF).tail hX' (fun b => hd2.lt)
    obtain ⟨F2, ms2, X2, Y2', hR2, ⟨hk2, rfl⟩, hE2, hm2, hF2, hle2⟩ := shareVs_ok ds h2 hR1 (hd2.keep hkeep hloc) (fun b => by have := hX' b; have := hle1 b; omega) hF1
    have hYe : Y = fun b => Y1 b + Y2 b := funext hY
    subst hYe
    refine ⟨F2, ms2, X2, fun _ => 0, hR2, ⟨(RelL.cons (hk1.keep hE2.keep0 (LocLe.refl _)) hk2).congr fun b => rfl, rfl⟩, ?_, hm1.trans hm2, hF2, fun b => by have h1 := hle1 b; have h2 := hle2 b; dsimp only at h1 h2 ⊢; omega⟩
    exact hE1.trans (hE2.count (fun b hb => by omega) (fun b hb => by omega))
end

theorem give_row {w : World} {F : FZ} {fm : Nat → Nat} {rows : Rows} {ms : Ms} {X Y : Cnt} {r ver n k : Nat} {v : Value} {row : Row} (hr : rows[r]? = some (some row)) (hp : row.pub = false) (hl : n * k ≤ row.cells.length)
    (hR : RowsRel w F fm rows ms X) (hd : Rel w F fm (mkLoc w rows ms) (.ref r [] ver 0 n k) v Y) (hF : FOK w F) :
    Stepped1 w F fm rows ms X Y (rows.set r none) fun F' _ Y' => Rel w F' fm L0 (.slice true k n (row.cells.take (n * k))) v Y' := by
  obtain ⟨m, X1, X2, hm, hv, hat, hXs, hrest⟩ := hR.take hr
  obtain ⟨hz, a, cap, hva, hc, hcl⟩ := hd.ref_top hr hm
  have hz' : ∀ b, Y b = 0 := hz
  obtain ⟨m1, m2⟩ := m
  have hzero : ∀ (Z : Cnt), Zero Z → cap = 0 → Rel w F fm L0 (.slice true k n (row.cells.take (n * k))) v Z := fun Z hZ h0 => by
    have : n = 0 := by omega
    subst this
    subst hva
    unfold Rel
    exact ⟨by simp, a, cap, rfl, hc, .inl ⟨by simp, h0, hZ⟩⟩
  have hext : ∀ Y' : Cnt, (∀ b, Y' b ≤ X1 b) → Ext w F (mkLoc w rows ms) (fun b => X b + Y b) w F (mkLoc w (rows.set r none) ms) (fun b => X2 b + Y' b) := fun Y' hY' =>
    Ext.still (fun _ _ h => h) (fun _ _ h => .inl h) (fun b h => by have := hXs b; have := hY' b; omega) (mkLoc_none hR r)
  match m1, hat, hcl with
  | none, hat, hcl =>
    exact ⟨F, ms, X2, fun _ => 0, hrest, hzero _ Zero.of_zero hcl, hext _ (fun _ => Nat.zero_le _), MsLe.refl _, hF, fun b => by have := hXs b; dsimp only; omega⟩
  | some (b, base), hat, hcl =>
    rcases hcl with hcl | ⟨ha, hh⟩
    · exact ⟨F, ms, X2, fun _ => 0, hrest, hzero _ Zero.of_zero hcl, hext _ (fun _ => Nat.zero_le _), MsLe.refl _, hF, fun b => by have := hXs b; dsimp only; omega⟩
    · obtain ⟨vs, Xc, ho, hbk, hrl, hFb, hX1⟩ := hat
      obtain ⟨Z1, Z2, hz1, _, hzs⟩ := hrl.take_drop (n * k)
      refine ⟨F, ms, X2, fun c => Z1 c + if c = b then 1 else 0, hrest, ?_, hext _ (fun c => by rw [hX1, hzs]; omega), MsLe.refl _, hF, fun c => by have := hXs c; have := hX1 c; have := hzs c; dsimp only; omega⟩
      subst hva
      unfold Rel
      refine ⟨by simp; omega, a, cap, rfl, hc, .inr ⟨⟨b, base, none⟩, vs.take (n * k), Z1, by rw [ha]; simp, rfl, ho.take _, ?_, hz1, fun o hf => ?_, fun c => rfl⟩⟩
      · obtain ⟨c, e, z, h1, h2, h3, h4, h5⟩ := hbk
        obtain ⟨c', e', z', g1, g2⟩ := hh
        have hcc : c = c' := by rw [h1] at g1; injection g1 with g1; injection g1
        subst hcc
        refine ⟨c, e, z, h1, by simp; omega, by simpa using g2, fun j hj => ?_, h5⟩
        simp at hj
        simpa using h4 j (by omega)
      · have := (hFb o hf).1
        rw [hp] at this; simp at this

mutual
theorem giveV_ok {w : World} {F : FZ} {fm : Nat → Nat} : ∀ (d : D) {rows rows' : Rows} {ms : Ms} {X Y : Cnt} {v : Value} {d' : D}, giveV rows d = some (rows', d') → RowsRel w F fm rows ms X → Rel w F fm (mkLoc w rows ms) d v Y →
    (∀ b, X b + Y b ≤ 1) → FOK w F → Stepped1 w F fm rows ms X Y rows' fun F' _ Y' => Rel w F' fm L0 d' v Y'
  | .slice o k n cs, rows, rows', ms, X, Y, v, d', h, hR, hd, hX, hF => by
    simp only [giveV, Option.some.injEq, Prod.mk.injEq] at h
    obtain ⟨rfl, rfl⟩ := h
    refine Stepped1.of_same hR hF ?_
    cases o <;> (unfold Rel at hd ⊢; exact hd)
  | .ref r path ver off n k, rows, rows', ms, X, Y, v, d', h, hR, hd, hX, hF => by
    simp only [giveV] at h
    have hshare : ∀ {h : shareV rows (.ref r path ver off n k) = some (rows', d')}, Stepped1 w F fm rows ms X Y rows' fun F' _ Y' => Rel w F' fm L0 d' v Y' := fun {h} =>
      (shareV_ok _ h hR hd hX hF).imp fun F' _ Y' hk => by rw [hk.2]; exact hk.1
    split at h
    · rename_i row hrow
      split at h
      · exact hshare (h := h)
      · rename_i hp
        split at h
        case isFalse => simp at h
        rename_i hl
        simp only [Option.some.injEq, Prod.mk.injEq] at h
        obtain ⟨rfl, rfl⟩ := h
        exact give_row (theRow_eq hrow) (by simpa using hp) hl hR hd hF
    · exact hshare (h := h)
  | .agg vs, rows, rows', ms, X, Y, v, d', h, hR, hd, hX, hF => by
    simp only [giveV] at h
    obtain ⟨⟨rs, ds⟩, h1, h2⟩ := map_some h
    simp only [Prod.mk.injEq] at h2
    obtain ⟨rfl, rfl⟩ := h2
    unfold Rel at hd
    obtain ⟨us, hv, hd⟩ := hd
    refine (giveVs_ok vs h1 hR hd hX hF).imp fun F' _ Y' hk => ?_
    unfold Rel
    exact ⟨us, hv, hk⟩
  | .tup vs, rows, rows', ms, X, Y, v, d', h, hR, hd, hX, hF => by
    simp only [giveV] at h
    obtain ⟨⟨rs, ds⟩, h1, h2⟩ := map_some h
    simp only [Prod.mk.injEq] at h2
    obtain ⟨rfl, rfl⟩ := h2
    unfold Rel at hd
    obtain ⟨us, hv, hd⟩ := hd
    refine (giveVs_ok vs h1 hR hd hX hF).imp fun F' _ Y' hk => ?_
    unfold Rel
    exact ⟨us, hv, hk⟩
  | .fn g caps, rows, rows', ms, X, Y, v, d', h, hR, hd, hX, hF => by
    simp only [giveV] at h
    split at h
    case h_2 => simp at h
    simp only [Option.some.injEq, Prod.mk.injEq] at h
    obtain ⟨rfl, rfl⟩ := h
    refine Stepped1.of_same hR hF ?_
    unfold Rel at hd ⊢
    obtain ⟨hz, us, hv, hr⟩ := hd
    unfold RelL at hr
    exact ⟨hz, us, hv, by unfold RelL; exact hr⟩
  | .bool b, rows, rows', ms, X, Y, v, d', h, hR, hd, hX, hF => by
    simp only [giveV, Option.some.injEq, Prod.mk.injEq] at h
    obtain ⟨rfl, rfl⟩ := h
    exact Stepped1.of_same hR hF (by unfold Rel at hd ⊢; exact hd)
  | .int k n, rows, rows', ms, X, Y, v, d', h, hR, hd, hX, hF => by
    simp only [giveV, Option.some.injEq, Prod.mk.injEq] at h
    obtain ⟨rfl, rfl⟩ := h
    exact Stepped1.of_same hR hF (by unfold Rel at hd ⊢; exact hd)
  | .str s, rows, rows', ms, X, Y, v, d', h, hR, hd, hX, hF => by
    simp only [giveV, Option.some.injEq, Prod.mk.injEq] at h
    obtain ⟨rfl, rfl⟩ := h
    exact Stepped1.of_same hR hF (by unfold Rel at hd ⊢; exact hd)
  | .undef, _, _, _, _, _, _, _, h, _, _, _, _ => by simp [giveV] at h
  | .addr _ _ _ _, _, _, _, _, _, _, _, h, _, _, _, _ => by simp [giveV] at h
  | .faddr _ _, _, _, _, _, _, _, _, h, _, _, _, _ => by simp [giveV] at h
theorem giveVs_ok {w : World} {F : FZ} {fm : Nat → Nat} : ∀ (ds : List D) {rows rows' : Rows} {ms : Ms} {X Y : Cnt} {vs : List Value} {ds' : List D}, giveVs rows ds = some (rows', ds') → RowsRel w F fm rows ms X → RelL w F fm (mkLoc w rows ms) ds vs Y →
    (∀ b, X b + Y b ≤ 1) → FOK w F → Stepped1 w F fm rows ms X Y rows' fun F' _ Y' => RelL w F' fm L0 ds' vs Y'
  | [], rows, rows', ms, X, Y, vs, ds', h, hR, hd, hX, hF => by
    simp only [giveVs, Option.some.injEq, Prod.mk.injEq] at h
    obtain ⟨rfl, rfl⟩ := h
    exact Stepped1.of_same hR hF (by unfold RelL at hd ⊢; exact hd)
  | d :: ds, rows, rows', ms, X, Y, vs, ds', h, hR, hd, hX, hF => by
    simp only [giveVs] at h
    split at h
    case h_1 => simp at h
    rename_i rs d1 h1
    split at h
    case h_1 => simp at h
    rename_i rs2 ds2 h2
    simp only [Option.some.injEq, Prod.mk.injEq] at h
    obtain ⟨rfl, rfl⟩ := h
    unfold RelL at hd
    obtain ⟨v, vs', Y1, Y2, rfl, hd1, hd2, hY⟩ := hd
    have hX' : ∀ b, X b + (Y1 b + Y2 b) ≤ 1 := fun b => by have := hX b; have := hY b; omega
    obtain ⟨F1, ms1, X1, Z1, hR1, hk1, hE1, hm1, hF1, hle1, hkeep, hloc⟩ := (giveV_ok d h1 hR hd1 (fun b => by have := hX' b; omega) hF).tail hX' (fun b => hd2.lt)
    have hd2' := hd2.keep hkeep hloc
    -- what was given lies on the side while the others follow
    have hX1 : ∀ b, X1 b + (Y2 b + Z1 b) ≤ 1 := fun b => by have := hX' b; have := hle1 b; omega
    obtain ⟨F2, ms2, X2, Z2, hR2, hk2, hE2, hm2, hF2, hle2, hkeep2, _⟩ := (giveVs_ok ds h2 hR1 hd2' (fun b => by have := hX1 b; omega) hF1).tail hX1 (fun b => hk1.lt)
    have hYe : Y = fun b => Y1 b + Y2 b := funext hY
    subst hYe
    refine ⟨F2, ms2, X2, fun b => Z1 b + Z2 b, hR2, RelL.cons (hk1.keep hkeep2 (LocLe.refl _)) hk2, ?_, hm1.trans hm2, hF2, fun b => by have h1 := hle1 b; have h2 := hle2 b; dsimp only at h1 h2 ⊢; omega⟩
    exact hE1.trans (hE2.count (fun b hb => by omega) (fun b hb => by dsimp only at hb ⊢; omega))
end

mutual
theorem adoptV_ok {w : World} {F : FZ} {fm : Nat → Nat} : ∀ (d : D) {rows : Rows} {ms : Ms} {X Y : Cnt} {v : Value}, RowsRel w F fm rows ms X → Rel w F fm (mkLoc w rows ms) d v Y →
    (∀ b, X b + Y b ≤ 1) → FOK w F → ∃ ms' X', RowsRel w F fm (adoptV rows d).1 ms' X' ∧ Rel w F fm (mkLoc w (adoptV rows d).1 ms') (adoptV rows d).2 v (fun _ => 0) ∧ LocLe (mkLoc w rows ms) (mkLoc w (adoptV rows d).1 ms') ∧ MsLe ms ms' ∧ (∀ b, X' b = X b + Y b)
  | .slice true k n cs, rows, ms, X, Y, v, hR, hd, hX, hF => by
    unfold Rel at hd
    obtain ⟨hl, a, cap, hv, hc, h⟩ := hd
    simp only [adoptV]
    have hlen := hR.length
    rcases h with ⟨h0, hcap, hz⟩ | ⟨ad, vs, Z, ha, hs, ho, hb, hr, hnF, hY⟩
    · refine ⟨ms ++ [(none, 0)], _, hR.push (row := { cells := cs }) (m := none) ⟨h0, Zero.of_zero⟩ rfl, ?_, mkLoc_push hR _ _, MsLe.push _ _, fun b => by rw [hz b]⟩
      unfold Rel
      refine ⟨Zero.of_zero, by simp [mkLoc], fun h => absurd rfl h, a, cap, hv, ⟨hc, fun _ => hcap⟩, fun loc hloc => ?_⟩
      simp [mkLoc, locAt, theRow, hlen.symm] at hloc
      subst hloc
      exact hcap
    · refine ⟨ms ++ [(some (ad.block, ad.off), 0)], _, hR.push (row := { cells := cs }) (m := some (ad.block, ad.off)) (X1 := Y) ⟨vs, Z, ho, ?_, hr, fun o h => absurd h (hnF o), hY⟩ rfl, ?_, mkLoc_push hR _ _, MsLe.push _ _, fun b => rfl⟩
      · obtain ⟨c, e, z, h1, h2, h3, h4⟩ := hb
        exact ⟨c, e, z, h1, h2, by omega, h4⟩
      · unfold Rel
        refine ⟨Zero.of_zero, by simp [mkLoc], fun h => absurd rfl h, a, cap, hv, ⟨hc, fun h => by rw [ha] at h; simp at h⟩, fun loc hloc => ?_⟩
        simp [mkLoc, locAt, theRow, hlen.symm] at hloc
        subst hloc
        refine .inr ⟨by rw [ha]; simp [← hs], ?_⟩
        obtain ⟨c, e, z, h1, h2, h3, h4⟩ := hb
        exact ⟨c, e, z, h1, by omega⟩
  | .slice false k n cs, rows, ms, X, Y, v, hR, hd, hX, hF => by
    unfold Rel at hd
    have hz : ∀ b, Y b = 0 := hd.1
    simp only [adoptV]
    exact ⟨ms, X, hR, by unfold Rel; exact ⟨Zero.of_zero, hd.2⟩, LocLe.refl _, MsLe.refl _, fun b => by rw [hz b]; rfl⟩
  | .agg vs, rows, ms, X, Y, v, hR, hd, hX, hF => by
    unfold Rel at hd
    obtain ⟨us, hv, hd⟩ := hd
    obtain ⟨ms', X', h1, h2, h3, h4, h5⟩ := adoptVs_ok vs hR hd hX hF
    simp only [adoptV]
    exact ⟨ms', X', h1, by unfold Rel; exact ⟨us, hv, h2⟩, h3, h4, h5⟩
  | .tup vs, rows, ms, X, Y, v, hR, hd, hX, hF => by
    unfold Rel at hd
    obtain ⟨us, hv, hd⟩ := hd
    obtain ⟨ms', X', h1, h2, h3, h4, h5⟩ := adoptVs_ok vs hR hd hX hF
    simp only [adoptV]
    exact ⟨ms', X', h1, by unfold Rel; exact ⟨us, hv, h2⟩, h3, h4, h5⟩
  | .undef, rows, ms, X, Y, v, hR, hd, hX, hF => by
    unfold Rel at hd
    exact ⟨ms, X, hR, by simp only [adoptV]; unfold Rel; exact Zero.of_zero, LocLe.refl _, MsLe.refl _, fun b => by have h : Y b = 0 := hd b; rw [h]; rfl⟩
  | .bool b, rows, ms, X, Y, v, hR, hd, hX, hF => by
    unfold Rel at hd
    exact ⟨ms, X, hR, by simp only [adoptV]; unfold Rel; exact ⟨hd.1, Zero.of_zero⟩, LocLe.refl _, MsLe.refl _, fun b => by have h : Y b = 0 := hd.2 b; rw [h]; rfl⟩
  | .int k n, rows, ms, X, Y, v, hR, hd, hX, hF => by
    unfold Rel at hd
    exact ⟨ms, X, hR, by simp only [adoptV]; unfold Rel; exact ⟨hd.1, Zero.of_zero⟩, LocLe.refl _, MsLe.refl _, fun b => by have h : Y b = 0 := hd.2 b; rw [h]; rfl⟩
  | .str s, rows, ms, X, Y, v, hR, hd, hX, hF => by
    unfold Rel at hd
    exact ⟨ms, X, hR, by simp only [adoptV]; unfold Rel; exact ⟨hd.1, Zero.of_zero⟩, LocLe.refl _, MsLe.refl _, fun b => by have h : Y b = 0 := hd.2 b; rw [h]; rfl⟩
  | .ref r p v o n k, rows, ms, X, Y, _, hR, hd, hX, hF => by
    have hz : Zero Y := by unfold Rel at hd; exact hd.1
    exact ⟨ms, X, hR, hd.zero_eq hz, LocLe.refl _, MsLe.refl _, fun b => by have h : Y b = 0 := hz b; rw [h]; rfl⟩
  | .addr r p v o, rows, ms, X, Y, _, hR, hd, hX, hF => by
    have hz : Zero Y := by unfold Rel at hd; exact hd.1
    exact ⟨ms, X, hR, hd.zero_eq hz, LocLe.refl _, MsLe.refl _, fun b => by have h : Y b = 0 := hz b; rw [h]; rfl⟩
  | .faddr c o, rows, ms, X, Y, _, hR, hd, hX, hF => by
    have hz : Zero Y := by unfold Rel at hd; exact hd.1
    exact ⟨ms, X, hR, hd.zero_eq hz, LocLe.refl _, MsLe.refl _, fun b => by have h : Y b = 0 := hz b; rw [h]; rfl⟩
  | .fn g c, rows, ms, X, Y, _, hR, hd, hX, hF => by
    have hz : Zero Y := by unfold Rel at hd; exact hd.1
    exact ⟨ms, X, hR, hd.zero_eq hz, LocLe.refl _, MsLe.refl _, fun b => by have h : Y b = 0 := hz b; rw [h]; rfl⟩
theorem adoptVs_ok {w : World} {F : FZ} {fm : Nat → Nat} : ∀ (ds : List D) {rows : Rows} {ms : Ms} {X Y : Cnt} {vs : List Value}, RowsRel w F fm rows ms X → RelL w F fm (mkLoc w rows ms) ds vs Y →
    (∀ b, X b + Y b ≤ 1) → FOK w F → ∃ ms' X', RowsRel w F fm (adoptVs rows ds).1 ms' X' ∧ RelL w F fm (mkLoc w (adoptVs rows ds).1 ms') (adoptVs rows ds).2 vs (fun _ => 0) ∧ LocLe (mkLoc w rows ms) (mkLoc w (adoptVs rows ds).1 ms') ∧ MsLe ms ms' ∧ (∀ b, X' b = X b + Y b)
  | [], rows, ms, X, Y, vs, hR, hd, hX, hF => by
    unfold RelL at hd
    exact ⟨ms, X, hR, by simp only [adoptVs]; unfold RelL; exact ⟨hd.1, Zero.of_zero⟩, LocLe.refl _, MsLe.refl _, fun b => by have h : Y b = 0 := hd.2 b; rw [h]; rfl⟩
  | d :: ds, rows, ms, X, Y, vs, hR, hd, hX, hF => by
    unfold RelL at hd
    obtain ⟨v, vs', Y1, Y2, rfl, hd1, hd2, hY⟩ := hd
    obtain ⟨ms1, X1, h1, h2, h3, h4, h5⟩ := adoptV_ok d hR hd1 (fun b => by have := hX b; have := hY b; omega) hF
    obtain ⟨ms2, X2, g1, g2, g3, g4, g5⟩ := adoptVs_ok ds h1 (hd2.keep (Keep.refl _ _ _) h3) (fun b => by have := hX b; have := hY b; have := h5 b; omega) hF
    simp only [adoptVs]
    exact ⟨ms2, X2, g1, (RelL.cons (h2.keep (Keep.refl _ _ _) g3) g2).congr fun b => rfl, h3.trans g3, h4.trans g4, fun b => by rw [g5, h5, hY]; omega⟩
end
end Av
namespace Av
open Go

/-! ### Operands -/
mutual
def constOK (fm : Nat → Nat) : D → Value → Bool
  | .undef, _ => true
  | .bool a, .bool b => a == b
  | .int k n, .int k' n' => k == k' && n == n'
  | .str s, .string b => s == b.data.toList
  | .slice true _ n cs, .slice none n' c => n == 0 && cs.isEmpty && n' == 0 && c == 0
  | .agg ds, .agg vs => constL fm ds vs.toList
  | .fn g caps, .func (.func f) first cs => caps.isEmpty && fm g == f && first.isEmpty && cs.isEmpty
  | _, _ => false
def constL (fm : Nat → Nat) : List D → List Value → Bool
  | [], [] => true
  | d :: ds, v :: vs => constOK fm d v && constL fm ds vs
  | _, _ => false
end

mutual
theorem constOK_rel {w : World} {F : FZ} {fm : Nat → Nat} {L : Loc} : ∀ {d : D} {v : Value}, constOK fm d v = true → Rel w F fm L d v (fun _ => 0)
  | .undef, _, _ => by unfold Rel; exact Zero.of_zero
  | .bool a, v, h => by
    cases v <;> simp [constOK] at h
    subst h; unfold Rel; exact ⟨rfl, Zero.of_zero⟩
  | .int k n, v, h => by
    cases v <;> simp [constOK] at h
    obtain ⟨rfl, rfl⟩ := h; unfold Rel; exact ⟨rfl, Zero.of_zero⟩
  | .str s, v, h => by
    cases v <;> simp [constOK] at h
    subst h; unfold Rel; exact ⟨by simp, Zero.of_zero⟩
  | .slice o k n cs, v, h => by
    cases v with
    | slice a n' c =>
      cases o <;> cases a <;> simp [constOK] at h
      obtain ⟨⟨⟨rfl, rfl⟩, rfl⟩, rfl⟩ := h
      unfold Rel
      exact ⟨by simp, none, 0, rfl, Nat.le_refl _, .inl ⟨rfl, rfl, Zero.of_zero⟩⟩
    | _ => cases o <;> simp [constOK] at h
  | .agg ds, v, h => by
    cases v <;> simp [constOK] at h
    unfold Rel
    exact ⟨_, by simp, constL_rel h⟩
  | .fn g caps, v, h => by
    cases v with
    | func f first cs =>
      cases f <;> simp [constOK] at h
      obtain ⟨⟨⟨rfl, rfl⟩, rfl⟩, rfl⟩ := h
      unfold Rel
      exact ⟨Zero.of_zero, [], by simp, RelL.nil⟩
    | _ => simp [constOK] at h
  | .ref .., v, h => by cases v <;> simp [constOK] at h
  | .addr .., v, h => by cases v <;> simp [constOK] at h
  | .faddr .., v, h => by cases v <;> simp [constOK] at h
  | .tup .., v, h => by cases v <;> simp [constOK] at h
theorem constL_rel {w : World} {F : FZ} {fm : Nat → Nat} {L : Loc} : ∀ {d : List D} {v : List Value}, constL fm d v = true → RelL w F fm L d v (fun _ => 0)
  | [], [], _ => RelL.nil
  | d :: ds, v :: vs, h => by
    simp [constL] at h
    exact (RelL.cons (constOK_rel h.1) (constL_rel h.2)).congr fun _ => rfl
  | [], _ :: _, h => by simp [constL] at h
  | _ :: _, [], h => by simp [constL] at h
end

def chkO (fm : Nat → Nat) (sl : List Nat) (tms : List (Option Nat)) : Opd → Operand → Bool
  | .v i, .tmp s => sl[i]? == some s
  | .t i, .tmp s => tms[i]? == some (some s)
  | .c d, .const v => constOK fm d v
  | .c (.fn g caps), .func f => caps.isEmpty && fm g == f
  | .c .undef, _ => true
  | _, _ => false

def slotV (a : Act) (s : Nat) : Value := a.tmps.getD s undef

structure Fr (w : World) (F : FZ) (fm : Nat → Nat) (L : Loc) (sl : List Nat) (tms : List (Option Nat)) (vars ts : List D) (a : Act) : Prop where
  vars : ∀ k s, sl[k]? = some s → Rel w F fm L (vars.getD k .undef) (slotV a s) (fun _ => 0)
  ts : ∀ i s, tms[i]? = some (some s) → Rel w F fm L (ts.getD i .undef) (slotV a s) (fun _ => 0)

theorem Rel.undef0 {w F fm L v} : Rel w F fm L .undef v (fun _ => 0) := by unfold Rel; exact Zero.of_zero

theorem RelL.getD {w F fm L} {ds : List D} {vs : List Value} (h : RelL w F fm L ds vs (fun _ => 0)) {i : Nat} {v : Value} (hv : vs[i]? = some v) : Rel w F fm L (ds.getD i .undef) v (fun _ => 0) := by
  cases hd : ds[i]? with
  | none => simp [List.getD, hd]; exact Rel.undef0
  | some d =>
    obtain ⟨v', X1, X2, hv', hr, hX, _⟩ := h.get hd
    rw [hv] at hv'
    have : v = v' := by simpa using hv'
    subst this
    simp [List.getD, hd]
    exact hr.congr fun b => by have := hX b; omega

theorem opd_ok {w F fm L sl tms vars ts a} (h : Fr w F fm L sl tms vars ts a) {x : Opd} {o : Operand} (hc : chkO fm sl tms x o = true) : Rel w F fm L (opd vars ts x) (a.eval o) (fun _ => 0) := by
  cases x with
  | v i =>
    cases o <;> simp [chkO] at hc
    rename_i s
    exact h.vars i s (by simpa using hc)
  | t i =>
    cases o <;> simp [chkO] at hc
    rename_i s
    exact h.ts i s (by simpa using hc)
  | c d =>
    cases o with
    | const v =>
      have : constOK fm d v = true := by cases d <;> first | exact hc | (simp only [chkO] at hc; exact hc)
      exact constOK_rel this
    | func f =>
      cases d <;> simp [chkO] at hc
      · exact Rel.undef0
      · obtain ⟨rfl, rfl⟩ := hc
        unfold opd Rel
        exact ⟨Zero.of_zero, [], by simp [Act.eval], RelL.nil⟩
    | _ => cases d <;> simp [chkO] at hc; exact Rel.undef0

def chkL (fm : Nat → Nat) (sl : List Nat) (tms : List (Option Nat)) : List Opd → List Operand → Bool
  | [], [] => true
  | x :: xs, y :: ys => chkO fm sl tms x y && chkL fm sl tms xs ys
  | _, _ => false

theorem opdL_ok {w F fm L sl tms vars ts a} (h : Fr w F fm L sl tms vars ts a) : ∀ {xs : List Opd} {os : List Operand}, chkL fm sl tms xs os = true → RelL w F fm L (xs.map (opd vars ts)) (os.map a.eval) (fun _ => 0)
  | [], [], _ => RelL.nil
  | x :: xs, o :: os, hc => by
    simp [chkL] at hc
    exact (RelL.cons (opd_ok h hc.1) (opdL_ok h hc.2)).congr fun _ => rfl
  | [], _ :: _, hc => by simp [chkL] at hc
  | _ :: _, [], hc => by simp [chkL] at hc

/-! ### What an operation must show -/

/-- An operation comes to 'res' and 'rows''. -/
def Does (P : Program) (fm : Nat → Nat) (o : Oper) (a : Act) (w : World) (F : FZ) (rows : Rows) (ms : Ms) (X : Cnt) (res : D) (rows' : Rows) : Prop :=
  ∀ (K : Act → World → Prop) (Q : Exit → Act → World → Prop),
    (∀ v w' F' ms' X', RowsRel w' F' fm rows' ms' X' → (∀ b, X' b ≤ 1) → FOK w' F' → Ext w F (mkLoc w rows ms) X w' F' (mkLoc w' rows' ms') X' → Rel w' F' fm (mkLoc w' rows' ms') res v (fun _ => 0) → K (a.put o.dst v) w') →
    o.wp P a w K Q

theorem Does.run {P fm o a w F rows ms X res rows'} {v : Value} {w' : World} {F' : FZ} {ms' : Ms} {X' : Cnt} (h : (execOp a.eval o).run P w = .ok (.value v) w')
    (hR : RowsRel w' F' fm rows' ms' X') (hX : ∀ b, X' b ≤ 1) (hF : FOK w' F') (hE : Ext w F (mkLoc w rows ms) X w' F' (mkLoc w' rows' ms') X') (_hm : MsLe ms ms') (hv : Rel w' F' fm (mkLoc w' rows' ms') res v (fun _ => 0)) :
    Does P fm o a w F rows ms X res rows' := fun K Q hk => by
  unfold Oper.wp
  rw [h, Oper.upon_value]
  exact hk v w' F' ms' X' hR hX hF hE hv

theorem Does.skip {P fm o a w F rows ms X rows'} {w' : World} {F' : FZ} {ms' : Ms} {X' : Cnt} (h : (execOp a.eval o).run P w = .ok .skip w')
    (hR : RowsRel w' F' fm rows' ms' X') (hX : ∀ b, X' b ≤ 1) (hF : FOK w' F') (hE : Ext w F (mkLoc w rows ms) X w' F' (mkLoc w' rows' ms') X') (_hm : MsLe ms ms') :
    Does P fm o a w F rows ms X .undef rows' := fun K Q hk => by
  unfold Oper.wp
  rw [h, Oper.upon_skip]
  exact hk undef w' F' ms' X' hR hX hF hE Rel.undef0

/-- An operation that touches neither the world nor the rows. -/
theorem Does.pure {P fm o a w F rows ms X res} {v : Value} (h : (execOp a.eval o).run P w = .ok (.value v) w)
    (hR : RowsRel w F fm rows ms X) (hX : ∀ b, X b ≤ 1) (hF : FOK w F) (hv : Rel w F fm (mkLoc w rows ms) res v (fun _ => 0)) : Does P fm o a w F rows ms X res rows :=
  Does.run h hR hX hF (Ext.refl _ _ _ _) (MsLe.refl _) hv

/-- A value step behind which nothing is left on the side. -/
theorem Stepped1.zero {w : World} {F : FZ} {fm : Nat → Nat} {rows rows' : Rows} {ms : Ms} {X : Cnt} {K : FZ → Prop} (h : Stepped1 w F fm rows ms X (fun _ => 0) rows' fun F' _ Y' => K F' ∧ Y' = fun _ => 0) (hX : ∀ b, X b ≤ 1) :
    ∃ F' ms' X', RowsRel w F' fm rows' ms' X' ∧ K F' ∧ Ext w F (mkLoc w rows ms) X w F' (mkLoc w rows' ms') X' ∧ MsLe ms ms' ∧ FOK w F' ∧ (∀ b, X' b ≤ 1) := by
  obtain ⟨F', ms', X', Y', h1, ⟨h2, rfl⟩, h3, h4, h5, h6⟩ := h
  exact ⟨F', ms', X', h1, h2, h3.count (fun b hb => by simpa using hb) (fun b hb => by simp; omega), h4, h5, fun b => by have := h6 b; have := hX b; dsimp only at *; omega⟩

theorem LocLe.of0 {w F fm L d v X} (h : Rel w F fm L0 d v X) : Rel w F fm L d v X := h.keep (Keep.refl _ _ _) (LocLe.zero L)

theorem does_assign {P fm o a w F rows ms X res rows'} {m : Mode} {d : D} {v : Value} (h : (execOp a.eval o).run P w = .ok (.value v) w) (hd : Rel w F fm (mkLoc w rows ms) d v (fun _ => 0))
    (he : (match m with
      | .asis => some (d, rows)
      | .lend => none
      | .share => (shareV rows d).map fun (rs, v) => (v, rs)
      | .own => let r := adoptV rows d; some (r.2, r.1)) = some (res, rows'))
    (hR : RowsRel w F fm rows ms X) (hX : ∀ b, X b ≤ 1) (hF : FOK w F) : Does P fm o a w F rows ms X res rows' := by
  cases m with
  | asis =>
    simp only [Option.some.injEq, Prod.mk.injEq] at he
    obtain ⟨rfl, rfl⟩ := he
    exact Does.pure h hR hX hF hd
  | lend => simp at he
  | share =>
    simp only at he
    obtain ⟨⟨rs, d'⟩, h1, h2⟩ := map_some he
    simp only [Prod.mk.injEq] at h2
    obtain ⟨rfl, rfl⟩ := h2
    obtain ⟨F', ms', X', h1, h2, h3, h4, h5, h6⟩ := (shareV_ok d h1 hR hd (fun b => by have := hX b; omega) hF).zero hX
    exact Does.run h h1 h6 h5 h3 h4 (LocLe.of0 h2)
  | own =>
    simp only [Option.some.injEq, Prod.mk.injEq] at he
    obtain ⟨rfl, rfl⟩ := he
    obtain ⟨ms', X', h1, h2, h3, h4, h5⟩ := adoptV_ok d hR hd (fun b => by have := hX b; omega) hF
    refine Does.run h h1 (fun b => by rw [h5]; exact hX b) hF (Ext.still (fun _ _ h => h) (fun _ _ h => .inl h) (fun b hb => ?_) h3) h4 h2
    rw [h5] at hb; simpa using hb

/-! ### Numbers and strings -/
theorem toList_mk (s : List UInt8) : (⟨s.toArray⟩ : ByteArray).toList = s := by rw [ByteArray.toList_eq]

/-- Types whose values '==' compares without a look at anything but the values. -/
def flatTy (P : Program) (t : TypeId) : Bool :=
  match P.underlying t with
  | some .bool => true
  | _ => false

theorem eqGuard_ok {op : BinOp} {t : TypeId} {x y : Operand} {u v : Value} (h : ∀ c, u ≠ .agg c) (h' : u ≠ .nilIface) : eqGuard op t x y u v = pure () := by
  cases u <;> first | (exact absurd rfl (h _)) | (exact absurd rfl h') | (cases op <;> rfl)

theorem intBin_ok {P : Program} {w : World} {op : BinOp} {k : IntKind} {x y : Int} {d : D} (h : intBin op k x y = some d) (t : TypeId) :
    ∃ v, (binOp op t (.int k x) (.int k y)).run P w = .ok v w ∧ ∀ F fm L, Rel w F fm L d v (fun _ => 0) := by
  have fin : ∀ (v : Value) (e : D), some e = some d → (∀ F fm L, Rel w F fm L e v (fun _ => 0)) → (binOp op t (.int k x) (.int k y)).run P w = .ok v w →
      ∃ v, (binOp op t (.int k x) (.int k y)).run P w = .ok v w ∧ ∀ F fm L, Rel w F fm L d v (fun _ => 0) := fun v e he hr hv => ⟨v, hv, by injection he with he; subst he; exact hr⟩
  have ri : ∀ n, ∀ F fm L, Rel w F fm L (.int k n) (.int k n) (fun _ => 0) := fun n F fm L => by unfold Rel; exact ⟨rfl, Zero.of_zero⟩
  have rb : ∀ c, ∀ F fm L, Rel w F fm L (.bool c) (.bool c) (fun _ => 0) := fun n F fm L => by unfold Rel; exact ⟨rfl, Zero.of_zero⟩
  cases op with
  | add => exact fin _ _ h (ri _) (by rw [binOp_add]; rfl)
  | sub => exact fin _ _ h (ri _) (by rw [binOp_sub]; rfl)
  | mul => exact fin _ _ h (ri _) (by rw [binOp_mul]; rfl)
  | and => exact fin _ _ h (ri _) (by rw [binOp_and]; rfl)
  | or => exact fin _ _ h (ri _) (by rw [binOp_or]; rfl)
  | xor => exact fin _ _ h (ri _) (by rw [binOp_xor]; rfl)
  | andNot => exact fin _ _ h (ri _) (by rw [binOp_andNot]; rfl)
  | eql => exact fin _ _ h (rb _) (by rw [binOp_eql]; rfl)
  | neq => exact fin _ _ h (rb _) (by rw [binOp_neq]; rfl)
  | lss => exact fin _ _ h (rb _) (by rw [binOp_lss]; rfl)
  | leq => exact fin _ _ h (rb _) (by rw [binOp_leq]; rfl)
  | gtr => exact fin _ _ h (rb _) (by rw [binOp_gtr]; rfl)
  | geq => exact fin _ _ h (rb _) (by rw [binOp_geq]; rfl)
  | quo =>
    simp only [intBin] at h
    split at h
    · simp at h
    · rename_i h0
      exact fin _ _ h (ri _) (by rw [binOp_quo]; simp [Op.intDiv, h0])
  | rem =>
    simp only [intBin] at h
    split at h
    · simp at h
    · rename_i h0
      exact fin _ _ h (ri _) (by rw [binOp_rem]; simp [Op.intDiv, h0])
  | shl => simp [intBin] at h
  | shr => simp [intBin] at h

theorem strBin_ok {P : Program} {w : World} {op : BinOp} {x y : List UInt8} {d : D} (h : strBin op x y = some d) (t : TypeId) :
    ∃ v, (binOp op t (.string ⟨x.toArray⟩) (.string ⟨y.toArray⟩)).run P w = .ok v w ∧ ∀ F fm L, Rel w F fm L d v (fun _ => 0) := by
  have hx := toList_mk x
  have hy := toList_mk y
  have e : ∀ op, (∀ a b : Int, True) → op ≠ .shl → op ≠ .shr → binOp op t (.string ⟨x.toArray⟩) (.string ⟨y.toArray⟩) = Op.stringOp op ⟨x.toArray⟩ ⟨y.toArray⟩ := fun op _ h1 h2 => by
    cases op <;> first | rfl | exact absurd rfl h1 | exact absurd rfl h2
  have fin : ∀ (c : Bool), strBin op x y = some (.bool c) → Op.stringOp op ⟨x.toArray⟩ ⟨y.toArray⟩ = (pure (.bool c) : Sem Value) → op ≠ .shl → op ≠ .shr →
      ∃ v, (binOp op t (.string ⟨x.toArray⟩) (.string ⟨y.toArray⟩)).run P w = .ok v w ∧ ∀ F fm L, Rel w F fm L d v (fun _ => 0) := fun c hc hs h1 h2 => by
    rw [h] at hc
    injection hc with hc
    subst hc
    exact ⟨.bool c, by rw [e op (fun _ _ => trivial) h1 h2, hs]; rfl, fun F fm L => by unfold Rel; exact ⟨rfl, Zero.of_zero⟩⟩
  cases op with
  | add =>
    simp only [strBin] at h
    split at h
    · rename_i h0
      injection h with h
      subst h
      have hs : ¬ (((⟨x.toArray⟩ : ByteArray).size + (⟨y.toArray⟩ : ByteArray).size : Nat) : Int) > IntKind.i64.max := by
        have e1 : (⟨x.toArray⟩ : ByteArray).size = x.length := by simp [ByteArray.size]
        have e2 : (⟨y.toArray⟩ : ByteArray).size = y.length := by simp [ByteArray.size]
        rw [e1, e2, IntKind.max_i64]; omega
      refine ⟨.string (⟨x.toArray⟩ ++ ⟨y.toArray⟩), by simp only [binOp, Op.stringOp]; rw [if_neg hs]; rfl, fun F fm L => ?_⟩
      unfold Rel
      exact ⟨by congr 1, Zero.of_zero⟩
    · simp at h
  | eql => exact fin _ rfl (by simp only [Op.stringOp, hx, hy]) (by simp) (by simp)
  | neq => exact fin _ rfl (by simp only [Op.stringOp, hx, hy]) (by simp) (by simp)
  | lss => exact fin _ rfl (by simp only [Op.stringOp, hx, hy]) (by simp) (by simp)
  | leq => exact fin _ rfl (by simp only [Op.stringOp, hx, hy]) (by simp) (by simp)
  | gtr => exact fin _ rfl (by simp only [Op.stringOp, hx, hy]) (by simp) (by simp)
  | geq => exact fin _ rfl (by simp only [Op.stringOp, hx, hy]) (by simp) (by simp)
  | _ => simp [strBin] at h

theorem Rel.bool {w F fm L} (b : Bool) : Rel w F fm L (.bool b) (.bool b) (fun _ => 0) := by unfold Rel; exact ⟨rfl, Zero.of_zero⟩
theorem Rel.int {w F fm L} (k : IntKind) (n : Int) : Rel w F fm L (.int k n) (.int k n) (fun _ => 0) := by unfold Rel; exact ⟨rfl, Zero.of_zero⟩
theorem Rel.str {w F fm L} (s : List UInt8) : Rel w F fm L (.str s) (.string ⟨s.toArray⟩) (fun _ => 0) := by unfold Rel; exact ⟨rfl, Zero.of_zero⟩
theorem Rel.int_inv {w F fm L k n v X} (h : Rel w F fm L (.int k n) v X) : v = .int k n := by unfold Rel at h; exact h.1
theorem Rel.bool_inv {w F fm L b v X} (h : Rel w F fm L (.bool b) v X) : v = .bool b := by unfold Rel at h; exact h.1
theorem Rel.str_inv {w F fm L s v X} (h : Rel w F fm L (.str s) v X) : v = .string ⟨s.toArray⟩ := by unfold Rel at h; exact h.1

/-- 'x op y', the guard on nil interfaces with it. -/
def guarded (op : BinOp) (t : TypeId) (x y : Operand) (u v : Value) : Sem Value := do eqGuard op t x y u v; binOp op t u v

theorem bin_ok {P : Program} {w : World} {F : FZ} {fm : Nat → Nat} {L : Loc} {op : BinOp} {x y d : D} {u v : Value} {t : TypeId} {p q : Operand} (h : bin op x y = some d) (hx : Rel w F fm L x u (fun _ => 0)) (hy : Rel w F fm L y v (fun _ => 0)) :
    ∃ z, (guarded op t p q u v).run P w = .ok z w ∧ Rel w F fm L d z (fun _ => 0) := by
  unfold guarded
  unfold bin at h
  split at h
  · -- shl
    rw [hx.int_inv, hy.int_inv, eqGuard_ok (by simp) (by simp)]
    split at h
    · simp at h
    rename_i h0
    simp only [Option.some.injEq] at h
    subst h
    exact ⟨_, by simp [binOp, Op.shift, h0], Rel.int _ _⟩
  · rw [hx.int_inv, hy.int_inv, eqGuard_ok (by simp) (by simp)]
    split at h
    · simp at h
    rename_i h0
    simp only [Option.some.injEq] at h
    subst h
    exact ⟨_, by simp [binOp, Op.shift, h0], Rel.int _ _⟩
  · rw [hx.int_inv, hy.int_inv, eqGuard_ok (by simp) (by simp)]
    split at h
    case isFalse => simp at h
    rename_i hk
    subst hk
    obtain ⟨z, h1, h2⟩ := intBin_ok (P := P) (w := w) h t
    exact ⟨z, by simpa using h1, h2 _ _ _⟩
  · rw [hx.str_inv, hy.str_inv, eqGuard_ok (by simp) (by simp)]
    obtain ⟨z, h1, h2⟩ := strBin_ok (P := P) (w := w) h t
    exact ⟨z, by simpa using h1, h2 _ _ _⟩
  · simp at h

theorem eqb_ok {P : Program} {w : World} {t : TypeId} {p q : Operand} (ht : P.underlying t = some .bool) (neg a b : Bool) :
    (guarded (if neg then .neq else .eql) t p q (.bool a) (.bool b)).run P w = .ok (.bool (if neg then !(a == b) else a == b)) w := by
  unfold guarded
  rw [eqGuard_ok (by simp) (by simp)]
  have he : (Op.equal t (.bool a) (.bool b)).run P w = .ok (a == b) w := by
    rw [Op.equal, show Op.maxDepth = 9999 + 1 from rfl, Op.equalIn]
    simp [run_underlying ht]
  cases neg
  · have : binOp .eql t (.bool a) (.bool b) = (do pure (.bool (← Op.equal t (.bool a) (.bool b)))) := rfl
    simp [this, he]
  · have : binOp .neq t (.bool a) (.bool b) = (do pure (.bool (!(← Op.equal t (.bool a) (.bool b))))) := rfl
    simp [this, he]

theorem un_ok {P : Program} {w : World} {F : FZ} {fm : Nat → Nat} {L : Loc} {op : UnOp} {x d : D} {u : Value} (h : un op x = some d) (hx : Rel w F fm L x u (fun _ => 0)) :
    ∃ z, (Op.unary op u).run P w = .ok z w ∧ Rel w F fm L d z (fun _ => 0) := by
  unfold un at h
  split at h
  · rw [hx.int_inv]
    simp only [Option.some.injEq] at h; subst h
    exact ⟨_, rfl, Rel.int _ _⟩
  · rw [hx.bool_inv]
    simp only [Option.some.injEq] at h; subst h
    exact ⟨_, rfl, Rel.bool _⟩
  · rw [hx.int_inv]
    simp only [Option.some.injEq] at h; subst h
    exact ⟨_, rfl, Rel.int _ _⟩
  · simp at h

/-! ### Memory: loads -/
theorem add_none (b o j : Nat) : (⟨b, o, none⟩ : Addr).add j = ⟨b, o + j, none⟩ := by unfold Addr.add; split <;> simp_all

theorem run_isAgg {P : Program} {w : World} {t : TypeId} {d : TypeDesc} (h : P.underlying t = some d) : (isAgg t).run P w = .ok (match d with | .struct _ => true | .array _ _ => true | _ => false) w := by
  cases d <;> simp [isAgg, run_underlying h]

def aggT (P : Program) (t : TypeId) : Option Bool :=
  match P.underlying t with
  | some (.struct _) => some true
  | some (.array _ _) => some true
  | some _ => some false
  | none => none
def sizeT (P : Program) (t : TypeId) : Option Nat := (P.info? t).map (·.size)

theorem run_isAgg' {P : Program} {w : World} {t : TypeId} {b : Bool} (h : aggT P t = some b) : (isAgg t).run P w = .ok b w := by
  unfold aggT at h
  cases hd : P.underlying t with
  | none => simp [hd] at h
  | some d =>
    rw [run_isAgg hd]
    rw [hd] at h
    cases d <;> simp at h <;> subst h <;> rfl

theorem run_sizeT {P : Program} {w : World} {t : TypeId} {k : Nat} (h : sizeT P t = some k) : (Go.sizeOf t).run P w = .ok k w := by
  unfold sizeT at h
  cases hi : P.info? t with
  | none => simp [hi] at h
  | some i => simp [hi] at h; subst h; simp [Go.sizeOf, typeInfo, hi]

theorem run_loadVar {P : Program} {w : World} {t : TypeId} {agg : Bool} {k b o : Nat} {vs : List Value} (ha : aggT P t = some agg) (hk : sizeT P t = some k) (hl : vs.length = k) (h1 : agg = false → k = 1)
    (hc : ∀ j (h : j < vs.length), w.cell? ⟨b, o + j, none⟩ = some vs[j]) :
    (loadVar t ⟨b, o, none⟩).run P w = .ok (if agg then .agg vs.toArray else vs.headD undef) w := by
  have hld : (loadCells ⟨b, o, none⟩ vs.length).run P w = .ok vs.toArray w := run_loadCells_list w ⟨b, o, none⟩ vs (fun j v hj => by
    have hlt : j < vs.length := by rcases Nat.lt_or_ge j vs.length with h | h; exact h; simp [List.getElem?_eq_none h] at hj
    rw [add_none, hc j hlt]
    rw [List.getElem?_eq_getElem hlt] at hj
    exact hj)
  simp only [loadVar, Sem.run_bind, run_isAgg' ha, Result.andThen_ok]
  cases agg with
  | true =>
    subst hl
    simp [run_sizeT hk, hld]
  | false =>
    have hk1 := h1 rfl
    subst hk1
    match vs, hl with
    | [v], _ =>
      have h0 := hc 0 (by simp)
      simp only [Nat.add_zero, List.getElem_cons_zero] at h0
      simp [h0]

theorem borrow_ok {w : World} {F : FZ} {fm : Nat → Nat} {L : Loc} {r : Nat} {path : List Nat} {ver i : Nat} {d : D} {v : Value} {X : Cnt} (h : Rel w F fm L0 d v X) (h1 : v.oneCell' = true) (hr : L.ok r) (hv : ver ≤ L.cur r)
    (hloc : ∀ loc, L.at_ r (path ++ [i]) ver = some loc → locV v = some loc) : Rel w F fm L (borrow r path ver i d) v (fun _ => 0) := by
  match d, h with
  | .slice true k n cs, h =>
    unfold Rel at h
    obtain ⟨hl, a, cap, hva, hc, h⟩ := h
    simp only [borrow]
    unfold Rel
    refine ⟨Zero.of_zero, hr, fun _ => hv, a, cap, hva, ⟨hc, fun ha => ?_⟩, fun loc hl' => ?_⟩
    · rcases h with h | ⟨ad, vs, Y, ha', _⟩
      · exact h.2.1
      · rw [ha] at ha'; simp at ha'
    have hv' := hloc loc hl'
    rw [hva] at hv'
    by_cases hc0 : cap = 0
    · simp [locV, hc0] at hv'
      subst hv'
      exact hc0
    · cases a with
      | none => simp [locV, hc0] at hv'
      | some a =>
        simp [locV, hc0] at hv'
        subst hv'
        rcases h with h | ⟨ad, vs, Y, ha, hs, ho, hb, _⟩
        · exact .inl h.2.1
        · simp at ha
          subst ha
          refine .inr ⟨by simp [← hs], ?_⟩
          obtain ⟨c, e, z, g1, g2, g3, _⟩ := hb
          exact ⟨c, e, z, g1, by omega⟩
  | .slice false k n cs, h => simp only [borrow]; unfold Rel at h ⊢; exact ⟨Zero.of_zero, h.2⟩
  | .undef, _ => simp only [borrow]; exact Rel.undef0
  | .bool b, h => simp only [borrow]; unfold Rel at h ⊢; exact ⟨h.1, Zero.of_zero⟩
  | .int k n, h => simp only [borrow]; unfold Rel at h ⊢; exact ⟨h.1, Zero.of_zero⟩
  | .str s, h => simp only [borrow]; unfold Rel at h ⊢; exact ⟨h.1, Zero.of_zero⟩
  | .ref _ _ _ _ _ _, h => unfold Rel at h; exact absurd h.2.1 (by simp [L0])
  | .addr _ _ _ _, h => unfold Rel at h; exact absurd h.2.1 (by simp [L0])
  | .faddr c o, h => simp only [borrow]; unfold Rel at h ⊢; exact ⟨Zero.of_zero, h.2⟩
  | .agg cs, h => unfold Rel at h; obtain ⟨vs, rfl, _⟩ := h; simp [Value.oneCell'] at h1
  | .tup cs, h => unfold Rel at h; obtain ⟨vs, rfl, _⟩ := h; simp [Value.oneCell'] at h1
  | .fn g cs, h => simp only [borrow]; unfold Rel at h ⊢; obtain ⟨_, vs, h1, h2⟩ := h; exact ⟨Zero.of_zero, vs, h1, h2.keep (Keep.refl _ _ _) (LocLe.zero L)⟩
end Av
namespace Av
open Go

theorem navC_one {w : World} {cells : List D} {bb : Nat × Nat} {i : Nat} {v l : Value} (hc : w.cell? ⟨bb.1, bb.2 + i, none⟩ = some v) (h : navC w cells bb [i] = some l) : l = v := by
  rw [navC_cons] at h
  split at h
  · rename_i d v' hd hv
    rw [hc] at hv
    have : v = v' := by simpa using hv
    subst this
    unfold navNode at h
    split at h
    · simpa using h.symm
    · simp at h
  · simp at h

theorem cells_at {w : World} {F : FZ} {fm : Nat → Nat} {rows : Rows} {ms : Ms} {X : Cnt} {r : Nat} {path : List Nat} {ver : Nat} {row : Row} {cells : List D} (h : cellsAt rows r path ver = some (row, cells)) (hne : cells ≠ [])
    (hR : RowsRel w F fm rows ms X) : ∃ b base vs Xc, locAt w rows ms r path ver = some (some (b, base)) ∧ One vs ∧ (∀ j (h : j < vs.length), w.cell? ⟨b, base + j, none⟩ = some vs[j]) ∧ RelL w F fm L0 cells vs Xc ∧
      r < rows.length ∧ (mkLoc w rows ms).cur r = row.ver ∧ (∀ i (hi : i < vs.length) loc, locAt w rows ms r (path ++ [i]) row.ver = some loc → locV vs[i] = some loc) ∧ Blk w b base vs 0 := by
  match path, h with
  | [], h =>
    obtain ⟨row', hr, he⟩ := cellsAt_top h
    simp only [Prod.mk.injEq] at he
    obtain ⟨rfl, rfl⟩ := he
    obtain ⟨m, X1, X2, hm, hv, hat, _, _⟩ := hR.take hr
    obtain ⟨m1, m2⟩ := m
    match m1, hat with
    | none, hat => exact absurd hat.1 hne
    | some (b, base), ⟨vs, Xc, ho, hb, hrl, _, _⟩ =>
      have hlt : r < rows.length := by rcases Nat.lt_or_ge r rows.length with h | h; exact h; simp [List.getElem?_eq_none h] at hr
      refine ⟨b, base, vs, Xc, by simp [locAt, theRow_of hr, hm], ho, hb.cells, hrl, hlt, by simp [mkLoc, hm]; exact hv.symm, fun i hi loc hl => ?_, hb⟩
      simp only [List.nil_append, locAt, theRow_of hr, hm, if_true, Option.bind_eq_some_iff] at hl
      obtain ⟨l, hl, hl2⟩ := hl
      rw [← navC_one (hb.cells i hi) hl]
      exact hl2
  | p :: ps, h =>
    obtain ⟨row', hr, hvv, hn, he⟩ := cellsAt_nest h
    simp only at he hn
    subst he
    obtain ⟨m, X1, X2, hm, hv, hat, _, _⟩ := hR.take hr
    obtain ⟨m1, m2⟩ := m
    match m1, hat with
    | none, hat => rw [hat.1] at hn; simp [nav] at hn
    | some (b, base), ⟨vs, Xc, ho, hb, hrl, _, _⟩ =>
      have hlt : r < rows.length := by rcases Nat.lt_or_ge r rows.length with h | h; exact h; simp [List.getElem?_eq_none h] at hr
      obtain ⟨k2, n2, v2, Z1, R, g1, g2, g3, _⟩ := nav_focus (p :: ps) row.cells vs Xc (b, base) cells (by simp) hrl hb.cells hn
      unfold Rel at g1
      obtain ⟨hl1, a, cap, hva, hcap, h | ⟨ad, vs1, Y, ha, hs, ho1, hb1, hrl1, hF, hX1⟩⟩ := g1
      · exact absurd h.1 hne
      subst ha hva
      have hnv : navC w row.cells (b, base) (p :: ps) = some (.slice (some ad) n2 cap) := by
        have := g3 []
        rw [List.append_nil] at this
        rw [this]; rfl
      have hcap0 : 0 < cap := by
        rcases Nat.eq_zero_or_pos n2 with h0 | h0
        · subst h0
          exact absurd (List.eq_nil_of_length_eq_zero (by simpa using hl1)) hne
        · omega
      refine ⟨ad.block, ad.off, vs1, Y, ?_, ho1, hb1.cells, hrl1, hlt, by simp [mkLoc, hm]; exact hv.symm, fun i hi loc hl => ?_, by obtain ⟨c, e, z, h1, h2, h3, h4⟩ := hb1; exact ⟨c, e, z, h1, h2, by omega, h4⟩⟩
      · subst hvv
        simp [locAt, theRow_of hr, hm, hnv, locV_some hcap0]
      · have hnv1 := g3 [i]
        simp only [List.cons_append, locAt, theRow_of hr, hm, if_true, Option.bind_eq_some_iff] at hl
        obtain ⟨l, hl, hl2⟩ := hl
        rw [← List.cons_append, hnv1] at hl
        simp only [navNode] at hl
        rw [← navC_one (hb1.cells i hi) hl]
        exact hl2

theorem borrowL_ok {w : World} {F : FZ} {fm : Nat → Nat} {L : Loc} {r : Nat} {path : List Nat} {ver : Nat} (hr : L.ok r) (hv : ver ≤ L.cur r) : ∀ {ds : List D} {vs : List Value} {X : Cnt} {i : Nat}, RelL w F fm L0 ds vs X → One vs →
    (∀ j (h : j < vs.length) loc, L.at_ r (path ++ [i + j]) ver = some loc → locV vs[j] = some loc) → RelL w F fm L (borrowL r path ver i ds) vs (fun _ => 0)
  | [], vs, X, i, h, _, _ => by unfold RelL at h; simp only [borrowL]; unfold RelL; exact ⟨h.1, Zero.of_zero⟩
  | d :: ds, vs, X, i, h, ho, hl => by
    unfold RelL at h
    obtain ⟨v, vs', X1, X2, rfl, h1, h2, hX⟩ := h
    simp only [borrowL]
    refine (RelL.cons (borrow_ok h1 (ho v (by simp)) hr hv fun loc hloc => ?_) (borrowL_ok hr hv h2 (fun v hv => ho v (by simp [hv])) fun j hj loc hloc => ?_)).congr fun _ => rfl
    · have := hl 0 (by simp) loc (by simpa using hloc)
      simpa using this
    · have := hl (j + 1) (by simp; omega) loc (by rw [← Nat.add_assoc, Nat.add_right_comm]; exact hloc)
      simpa using this

theorem loadV_ok {P : Program} {w : World} {F : FZ} {fm : Nat → Nat} {rows : Rows} {ms : Ms} {X : Cnt} {t : TypeId} {agg : Bool} {k : Nat} {d res : D} {u : Value} (ha : aggT P t = some agg) (hk : sizeT P t = some k) (hk0 : 0 < k)
    (h : loadV rows agg k d = some res) (hd : Rel w F fm (mkLoc w rows ms) d u (fun _ => 0)) (hR : RowsRel w F fm rows ms X) :
    ∃ v, (Instr.loadAt t u).run P w = .ok v w ∧ Rel w F fm (mkLoc w rows ms) res v (fun _ => 0) := by
  cases d with
  | faddr cells off =>
    unfold Rel at hd
    obtain ⟨_, b, base, vs, rfl, ho, hsh, hrl⟩ := hd
    simp only [loadV] at h
    split at h
    case isFalse => simp at h
    rename_i hlen
    have hvl := hrl.length
    have hcut : ∀ j (hj : j < (cutL vs off k).length), w.cell? ⟨b, base + off + j, none⟩ = some (cutL vs off k)[j] := fun j hj => by
      obtain ⟨h1, h2⟩ := cutL_get hj
      rw [h2, Nat.add_assoc]
      exact (hsh _ h1).1
    have hlen' : (cutL vs off k).length = k := cutL_length (by omega)
    split at h
    · simp only [Option.some.injEq] at h
      subst h
      rename_i hagg
      subst hagg
      refine ⟨_, by simp only [Instr.loadAt, Instr.sureAddr, Sem.run_bind, Sem.run_pure, Result.andThen_ok]; exact run_loadVar ha hk hlen' (by simp) hcut, ?_⟩
      simp only [if_true]
      unfold Rel
      exact ⟨_, rfl, (hrl.cut0 off k).keep (Keep.refl _ _ _) (LocLe.zero _)⟩
    · rename_i hagg
      have hagg : agg = false := by simpa using hagg
      subst hagg
      split at h
      case isFalse => simp at h
      rename_i hk1
      subst hk1
      refine ⟨_, by simp only [Instr.loadAt, Instr.sureAddr, Sem.run_bind, Sem.run_pure, Result.andThen_ok]; exact run_loadVar ha hk hlen' (by simp) hcut, ?_⟩
      have hlt : off < vs.length := by omega
      have e : (cutL vs off 1).headD undef = vs[off] := by simp [cutL, List.headD_eq_head?_getD, List.head?_take, List.head?_drop, hlt]
      obtain ⟨v', Y1, Y2, hv', hr', hY, _⟩ := hrl.get h
      rw [List.getElem?_eq_getElem hlt] at hv'
      have : vs[off] = v' := by simpa using hv'
      subst this
      simp only [Bool.false_eq_true, if_false]
      rw [e]
      exact (hr'.congr (Y := fun _ => 0) fun b => by have := hY b; omega).keep (Keep.refl _ _ _) (LocLe.zero _)
  | addr r path ver off =>
    have hd0 := hd
    unfold Rel at hd
    obtain ⟨_, hrn, hver, a, rfl, hloc⟩ := hd
    simp only [loadV] at h
    split at h
    case h_1 => simp at h
    rename_i row cells hc
    split at h
    case isFalse => simp at h
    rename_i hlen
    have hne : cells ≠ [] := by intro h0; subst h0; simp at hlen; omega
    obtain ⟨b, base, vs, Xc, hl, ho, hcell, hrl, hrlt, hcur, hnest, _⟩ := cells_at hc hne hR
    have ha' := hloc b base hl
    subst ha'
    have hvl := hrl.length
    have hcut : ∀ j (hj : j < (cutL vs off k).length), w.cell? ⟨b, base + off + j, none⟩ = some (cutL vs off k)[j] := fun j hj => by
      obtain ⟨h1, h2⟩ := cutL_get hj
      rw [h2, Nat.add_assoc]
      exact hcell _ h1
    have hlen' : (cutL vs off k).length = k := cutL_length (by omega)
    split at h
    · simp only [Option.some.injEq] at h
      subst h
      rename_i hagg
      subst hagg
      refine ⟨_, by simp only [Instr.loadAt, Instr.sureAddr, Sem.run_bind, Sem.run_pure, Result.andThen_ok]; exact run_loadVar ha hk hlen' (by simp) hcut, ?_⟩
      simp only [if_true]
      unfold Rel
      obtain ⟨Z, hz, _⟩ := hrl.cut off k
      refine ⟨_, rfl, borrowL_ok hrn (by rw [hcur]; exact Nat.le_refl _) hz (ho.cut _ _) fun j hj loc hl' => ?_⟩
      obtain ⟨h1, h2⟩ := cutL_get hj
      rw [h2]
      exact hnest _ h1 loc hl'
    · rename_i hagg
      have hagg : agg = false := by simpa using hagg
      subst hagg
      split at h
      case isFalse => simp at h
      rename_i hk1
      subst hk1
      obtain ⟨d, hdc, rfl⟩ := map_some h
      refine ⟨_, by simp only [Instr.loadAt, Instr.sureAddr, Sem.run_bind, Sem.run_pure, Result.andThen_ok]; exact run_loadVar ha hk hlen' (by simp) hcut, ?_⟩
      have hlt : off < vs.length := by omega
      have e : (cutL vs off 1).headD undef = vs[off] := by simp [cutL, List.headD_eq_head?_getD, List.head?_take, List.head?_drop, hlt]
      obtain ⟨v', Y1, Y2, hv', hr', hY, _⟩ := hrl.get hdc
      rw [List.getElem?_eq_getElem hlt] at hv'
      have : vs[off] = v' := by simpa using hv'
      subst this
      simp only [Bool.false_eq_true, if_false]
      rw [e]
      exact borrow_ok hr' (ho _ (by simp)) hrn (by rw [hcur]; exact Nat.le_refl _) fun loc hl' => hnest off hlt loc hl'
  | _ => simp [loadV] at h
end Av
namespace Av
open Go

theorem setCells_eff (b : Nat) : ∀ (us : List Value) (o : Nat) (w : World) (c : Array Value) (e : TypeId) (z : Nat × Nat), w.heap[b]? = some (.cells c e z) → o + us.length ≤ c.size →
    ∃ c', (w.setCells b o us).heap[b]? = some (.cells c' e z) ∧ c'.size = c.size ∧ (∀ j, c'[j]? = if o ≤ j ∧ j < o + us.length then us[j - o]? else c[j]?) ∧
      (∀ b', b' ≠ b → (w.setCells b o us).heap[b']? = w.heap[b']?) ∧ (w.setCells b o us).heap.size = w.heap.size ∧ (w.setCells b o us).os = w.os ∧ (w.setCells b o us).tape = w.tape ∧ (w.setCells b o us).output = w.output
  | [], o, w, c, e, z, h, _ => ⟨c, h, rfl, fun j => by simp; omega, fun _ _ => rfl, rfl, rfl, rfl, rfl⟩
  | u :: us, o, w, c, e, z, h, hl => by
    have h1 : (w.setCell ⟨b, o, none⟩ u).heap[b]? = some (.cells (c.setIfInBounds o u) e z) := by
      simp only [World.setCell, Array.getElem?_modify, if_true, h, Option.map_some]
      rfl
    simp at hl
    obtain ⟨c', g1, g2, g3, g4, g5, g6, g7, g8⟩ := setCells_eff b us (o + 1) (w.setCell ⟨b, o, none⟩ u) (c.setIfInBounds o u) e z h1 (by simp; omega)
    simp only [World.setCells]
    refine ⟨c', g1, by simpa using g2, fun j => ?_, fun b' hb => ?_, by rw [g5]; simp, g6, g7, g8⟩
    · rw [g3]
      by_cases hj : j = o
      · subst hj
        rw [if_neg (by omega), if_pos (by simp)]
        have : j < c.size := by omega
        simp [this]
      · by_cases hj2 : o + 1 ≤ j ∧ j < o + 1 + us.length
        · rw [if_pos hj2, if_pos (by simp; omega)]
          have : j - o = (j - (o + 1)) + 1 := by omega
          rw [this, List.getElem?_cons_succ]
        · rw [if_neg hj2, if_neg (by simp; omega)]
          rw [Array.getElem?_setIfInBounds]
          simp [Ne.symm hj]
    · rw [g4 b' hb]
      simp [World.setCell, Array.getElem?_modify, Ne.symm hb]

/-- The values 'us' are laid from 'off' on. -/
def layV : List Value → Nat → List Value → List Value
  | vs, _, [] => vs
  | vs, off, u :: us => layV (vs.set off u) (off + 1) us

theorem layV_length : ∀ (us vs : List Value) (off : Nat), (layV vs off us).length = vs.length
  | [], _, _ => rfl
  | u :: us, vs, off => by rw [layV, layV_length us]; simp
theorem layAt_length : ∀ (ds cs : List D) (off : Nat), (layAt cs off ds).length = cs.length
  | [], _, _ => rfl
  | d :: ds, cs, off => by rw [layAt, layAt_length ds]; simp

theorem layV_get : ∀ (us vs : List Value) (off : Nat), off + us.length ≤ vs.length → ∀ j, (layV vs off us)[j]? = if off ≤ j ∧ j < off + us.length then us[j - off]? else vs[j]?
  | [], vs, off, _, j => by simp [layV]; omega
  | u :: us, vs, off, h, j => by
    simp at h
    rw [layV, layV_get us _ _ (by simp; omega)]
    by_cases hj : j = off
    · subst hj
      rw [if_neg (by omega), if_pos (by simp)]
      have : j < vs.length := by omega
      simp [this]
    · by_cases hj2 : off + 1 ≤ j ∧ j < off + 1 + us.length
      · rw [if_pos hj2, if_pos (by simp; omega)]
        have : j - off = (j - (off + 1)) + 1 := by omega
        rw [this, List.getElem?_cons_succ]
      · rw [if_neg hj2, if_neg (by simp; omega), List.getElem?_set]
        simp [Ne.symm hj]

theorem layAt_get : ∀ (us vs : List D) (off : Nat), off + us.length ≤ vs.length → ∀ j, (layAt vs off us)[j]? = if off ≤ j ∧ j < off + us.length then us[j - off]? else vs[j]?
  | [], vs, off, _, j => by simp [layAt]; omega
  | u :: us, vs, off, h, j => by
    simp at h
    rw [layAt, layAt_get us _ _ (by simp; omega)]
    by_cases hj : j = off
    · subst hj
      rw [if_neg (by omega), if_pos (by simp)]
      have : j < vs.length := by omega
      simp [this]
    · by_cases hj2 : off + 1 ≤ j ∧ j < off + 1 + us.length
      · rw [if_pos hj2, if_pos (by simp; omega)]
        have : j - off = (j - (off + 1)) + 1 := by omega
        rw [this, List.getElem?_cons_succ]
      · rw [if_neg hj2, if_neg (by simp; omega), List.getElem?_set]
        simp [Ne.symm hj]

theorem RelL.lay {w F fm L} : ∀ {ds : List D} {us : List Value} {cs : List D} {vs : List Value} {X Y : Cnt} {off : Nat}, RelL w F fm L cs vs X → RelL w F fm L ds us Y → off + ds.length ≤ cs.length →
    ∃ Z, RelL w F fm L (layAt cs off ds) (layV vs off us) Z ∧ ∀ b, Z b ≤ X b + Y b
  | [], us, cs, vs, X, Y, off, h, k, _ => by
    unfold RelL at k
    obtain ⟨rfl, hz⟩ := k
    exact ⟨X, h, fun b => by omega⟩
  | d :: ds, us, cs, vs, X, Y, off, h, k, hl => by
    unfold RelL at k
    obtain ⟨u, us', Y1, Y2, rfl, k1, k2, hY⟩ := k
    simp at hl
    obtain ⟨v, X1, X2, hv, hr, hX, hset⟩ := h.get (i := off) (d := cs[off]) (by simp)
    obtain ⟨Z, hZ, hle⟩ := RelL.lay (off := off + 1) (hset w F L d u Y1 (Keep.refl _ _ _) (LocLe.refl _) k1) k2 (by simp; omega)
    exact ⟨Z, hZ, fun b => by have := hle b; have := hX b; have := hY b; omega⟩

theorem One.lay {us vs : List Value} {off : Nat} (h : One vs) (k : One us) (hl : off + us.length ≤ vs.length) : One (layV vs off us) := fun v hv => by
  obtain ⟨j, hj, rfl⟩ := List.getElem_of_mem hv
  have := layV_get us vs off hl j
  rw [List.getElem?_eq_getElem hj] at this
  split at this
  · exact k _ (List.mem_of_getElem? this.symm)
  · exact h _ (List.mem_of_getElem? this.symm)

/-- Scalars laid over a row: no way through it is new. -/
theorem navC_lay {w w' : World} {F : FZ} {fm : Nat → Nat} {cells ds : List D} {vs : List Value} {X : Cnt} {bb : Nat × Nat} {off : Nat} (hr : RelL w F fm L0 cells vs X) (hl : off + ds.length ≤ cells.length) (hsc : ∀ d ∈ ds, scalarD d = true)
    (hc : ∀ j (h : j < vs.length), w.cell? ⟨bb.1, bb.2 + j, none⟩ = some vs[j]) (hc' : ∀ j (h : j < vs.length), (j < off ∨ off + ds.length ≤ j) → w'.cell? ⟨bb.1, bb.2 + j, none⟩ = some vs[j])
    (hh : ∀ b, X b ≠ 0 → w'.heap[b]? = w.heap[b]?) : ∀ q l, navC w' (layAt cells off ds) bb q = some l → navC w cells bb q = some l := by
  intro q l hq
  match q, hq with
  | [], hq => simp [navC] at hq
  | i :: q, hq =>
    rw [navC_cons] at hq ⊢
    have hg := layAt_get ds cells off hl i
    by_cases hi : off ≤ i ∧ i < off + ds.length
    · rw [if_pos hi] at hg
      have hlt : i - off < ds.length := by omega
      rw [List.getElem?_eq_getElem hlt] at hg
      rw [hg] at hq
      have hs := hsc _ (List.getElem_mem hlt)
      cases hw : w'.cell? ⟨bb.1, bb.2 + i, none⟩ with
      | none => simp [hw] at hq
      | some v =>
        rw [hw] at hq
        generalize ds[i - off] = d at hs hq
        cases d <;> simp [scalarD] at hs <;> simp [navNode] at hq
    · rw [if_neg hi] at hg
      rw [hg] at hq
      cases hci : cells[i]? with
      | none => simp [hci] at hq
      | some di =>
        rw [hci] at hq
        obtain ⟨vi, Y1, Y2, hvi, hri, hY, _⟩ := hr.get hci
        have hli : i < vs.length := by rcases Nat.lt_or_ge i vs.length with h | h; exact h; simp [List.getElem?_eq_none h] at hvi
        rw [hc' i hli (by omega)] at hq
        rw [hc i hli]
        have hvi' : vi = vs[i] := by rw [List.getElem?_eq_getElem hli] at hvi; simpa using hvi.symm
        subst hvi'
        exact navNode_keep hri (fun b hb => hh b (by rw [hY]; omega)) q l hq

theorem storable_one {w F fm L d v X} (h : Rel w F fm L d v X) (hs : storable d = true) : v.oneCell' = true := by
  cases d <;> simp [storable] at hs
  · rw [h.bool_inv]; rfl
  · rw [h.int_inv]; rfl
  · rw [h.str_inv]; rfl
  · rename_i o k n cs
    cases o <;> unfold Rel at h
    · obtain ⟨_, _, a, c, rfl, _⟩ := h; rfl
    · obtain ⟨_, a, c, rfl, _⟩ := h; rfl
  · unfold Rel at h; obtain ⟨_, vs, rfl, _⟩ := h; rfl

theorem storableL_one {w F fm L} : ∀ {ds : List D} {vs : List Value} {X : Cnt}, RelL w F fm L ds vs X → (∀ d ∈ ds, storable d = true) → One vs
  | [], vs, X, h, _ => by unfold RelL at h; rw [h.1]; intro v hv; simp at hv
  | d :: ds, vs, X, h, hs => by
    unfold RelL at h
    obtain ⟨v, vs', X1, X2, rfl, h1, h2, _⟩ := h
    intro x hx
    rcases List.mem_cons.1 hx with rfl | hx
    · exact storable_one h1 (hs d (by simp))
    · exact storableL_one h2 (fun e he => hs e (by simp [he])) x hx

/-- A value's cells. -/
theorem comps_ok {w F fm L d v X} (h : Rel w F fm L d v X) (hd : d ≠ .undef) : RelL w F fm L (comps d) v.cells.toList X := by
  have one : ∀ {d : D} {v : Value}, Rel w F fm L d v X → RelL w F fm L [d] [v] X := fun h => (RelL.cons h RelL.nil).congr fun b => by simp
  cases d with
  | undef => exact absurd rfl hd
  | agg cs => unfold Rel at h; obtain ⟨vs, rfl, hr⟩ := h; simpa [comps, Value.cells] using hr
  | bool b => have := h.bool_inv; subst this; exact one h
  | int k n => have := h.int_inv; subst this; exact one h
  | str s => have := h.str_inv; subst this; exact one h
  | slice o k n cs =>
    have hv : ∃ a c, v = .slice a n c := by
      cases o <;> unfold Rel at h
      · obtain ⟨_, _, a, c, rfl, _⟩ := h; exact ⟨a, c, rfl⟩
      · obtain ⟨_, a, c, rfl, _⟩ := h; exact ⟨a, c, rfl⟩
    obtain ⟨a, c, rfl⟩ := hv
    exact one h
  | ref r p ve o n k => have h0 := h; unfold Rel at h; obtain ⟨_, _, _, a, c, rfl, _⟩ := h; exact one h0
  | addr r p ve o => have h0 := h; unfold Rel at h; obtain ⟨_, _, _, a, rfl, _⟩ := h; exact one h0
  | faddr c o => have h0 := h; unfold Rel at h; obtain ⟨_, b, ba, vs, rfl, _⟩ := h; exact one h0
  | tup cs => have h0 := h; unfold Rel at h; obtain ⟨vs, rfl, hr⟩ := h; exact one h0
  | fn g cs => have h0 := h; unfold Rel at h; obtain ⟨_, vs, rfl, hr⟩ := h; exact one h0
end Av
namespace Av
open Go

/-- What a write of 'us' at (b, o ..) does to a world. -/
structure Wrote (w w' : World) (b o : Nat) (us : List Value) : Prop where
  block : ∃ c c' e z, w.heap[b]? = some (.cells c e z) ∧ w'.heap[b]? = some (.cells c' e z) ∧ c'.size = c.size ∧ o + us.length ≤ c.size ∧ ∀ j, c'[j]? = if o ≤ j ∧ j < o + us.length then us[j - o]? else c[j]?
  other : ∀ b', b' ≠ b → w'.heap[b']? = w.heap[b']?
  size : w'.heap.size = w.heap.size
  os : w'.os = w.os
  tape : w'.tape = w.tape
  output : w'.output = w.output

theorem setCells_wrote {w : World} {b o : Nat} {us : List Value} {c : Array Value} {e : TypeId} {z : Nat × Nat} (h : w.heap[b]? = some (.cells c e z)) (hl : o + us.length ≤ c.size) : Wrote w (w.setCells b o us) b o us := by
  obtain ⟨c', g1, g2, g3, g4, g5, g6, g7, g8⟩ := setCells_eff b us o w c e z h hl
  exact ⟨⟨c, c', e, z, h, g1, g2, hl, g3⟩, g4, g5, g6, g7, g8⟩

theorem Wrote.has {w w' b o us} (h : Wrote w w' b o us) (b' n : Nat) (hh : Has w b' n) : Has w' b' n := by
  obtain ⟨c, e, z, h1, h2⟩ := hh
  by_cases hb : b' = b
  · subst hb
    obtain ⟨c0, c', e0, z0, g1, g2, g3, _⟩ := h.block
    rw [h1] at g1
    injection g1 with g1; injection g1 with g1 _ _
    subst g1
    exact ⟨c', e0, z0, g2, by omega⟩
  · exact ⟨c, e, z, (h.other b' hb).trans h1, h2⟩

theorem Wrote.cell {w w' b o us} (h : Wrote w w' b o us) (b' j : Nat) (hn : b' = b → ¬ (o ≤ j ∧ j < o + us.length)) : w'.cell? ⟨b', j, none⟩ = w.cell? ⟨b', j, none⟩ := by
  by_cases hb : b' = b
  · subst hb
    obtain ⟨c0, c', e0, z0, g1, g2, g3, _, g5⟩ := h.block
    have := g5 j
    rw [if_neg (hn rfl)] at this
    simp [World.cell?, g1, g2, this]
  · simp [World.cell?, h.other b' hb]

theorem Wrote.blk {w w' b base off us vs room} (h : Wrote w w' b (base + off) us) (hb : Blk w b base vs room) (hl : off + us.length ≤ vs.length) : Blk w' b base (layV vs off us) room := by
  obtain ⟨c, e, z, h1, h2, h3, h4, h5⟩ := hb
  obtain ⟨c0, c', e0, z0, g1, g2, g3, _, g5⟩ := h.block
  rw [h1] at g1
  injection g1 with g1; injection g1 with g1 g1' g1''
  subst g1 g1' g1''
  refine ⟨c', e, z, g2, by rw [layV_length]; omega, by omega, fun j hj => ?_, fun o ho => h5 o (by omega)⟩
  rw [layV_length] at hj
  have e2 := layV_get us vs off hl j
  rw [List.getElem?_eq_getElem (by rw [layV_length]; exact hj)] at e2
  rw [g5, e2]
  by_cases hi : off ≤ j ∧ j < off + us.length
  · rw [if_pos hi, if_pos (by omega)]
    congr 1; omega
  · rw [if_neg hi, if_neg (by omega), h4 j hj, List.getElem?_eq_getElem hj]

theorem Wrote.keep {w w' b o us F X} (h : Wrote w w' b o us) (hF : ∀ j, F b j → ¬ (o ≤ j ∧ j < o + us.length)) (hX : X b = 0) : Keep w F w' F X where
  cell b' j hf := h.cell b' j fun hb => by subst hb; exact hF j hf
  own b' hb := h.other b' fun e => by subst e; exact hb hX
  sub _ _ h := h
  not _ _ _ h := h
  has := h.has

theorem Wrote.fok {w w' b o us F} (h : Wrote w w' b o us) (hF : FOK w F) : FOK w' F := fun b' j hf => by
  by_cases hb : b' = b
  · subst hb
    have h1 := hF _ _ hf
    obtain ⟨c0, c', e0, z0, g1, g2, g3, _, g5⟩ := h.block
    simp only [World.cell?, g1, g2] at h1 ⊢
    simp at h1 ⊢
    omega
  · have h1 := hF _ _ hf
    simpa [World.cell?, h.other b' hb] using h1

theorem Wrote.ext {w w' b o us F L L' X X'} (h : Wrote w w' b o us) (hF : ∀ j, F b j → ¬ (o ≤ j ∧ j < o + us.length)) (hX : X b ≠ 0) (hX' : ∀ c, X' c ≠ 0 → X c ≠ 0) (hL : LocLe L L') : Ext w F L X w' F L' X' where
  cell b' j hf := h.cell b' j fun hb => by subst hb; exact hF j hf
  sub _ _ h := h
  new _ _ h := .inl h
  own c hc := .inl (hX' c hc)
  same b' _ h0 := h.other b' fun e => by subst e; exact hX h0
  has := h.has
  os := h.os
  tape := h.tape
  output := h.output
  size := by rw [h.size]; exact Nat.le_refl _
  loc := hL

theorem mkLoc_write {w w' : World} {F : FZ} {fm : Nat → Nat} {rows : Rows} {ms : Ms} {X : Cnt} {r : Nat} {row row' : Row} {m : Option (Nat × Nat) × Nat} {X2 : Cnt} (hR : RowsRel w F fm rows ms X) (hr : rows[r]? = some (some row)) (hm : ms[r]? = some m)
    (hrest : RowsRel w F fm (rows.set r none) ms X2) (hother : ∀ b, X2 b ≠ 0 → w'.heap[b]? = w.heap[b]?)
    (hv : row.ver ≤ row'.ver) (hmv : row.ver = m.2) (hnav : row'.ver = row.ver → ∀ bb q l, m.1 = some bb → navC w' row'.cells bb q = some l → navC w row.cells bb q = some l) :
    LocLe (mkLoc w rows ms) (mkLoc w' (rows.set r (some row')) (ms.set r (m.1, row'.ver))) := by
  refine mkLoc_le hR (by simp) (MsLe.set hm _) (fun r2 m1 m2 h1 h2 => ?_) (fun r2 row2 hr2 h2 => ?_)
  · by_cases h : r = r2
    · subst h
      rw [hm] at h1
      have hlt : r < ms.length := by rcases Nat.lt_or_ge r ms.length with h' | h'; exact h'; simp [List.getElem?_eq_none h'] at hm
      simp [hlt] at h1 h2
      subst h1 h2
      show m.2 ≤ row'.ver
      omega
    · rw [List.getElem?_set] at h2
      simp [h] at h2
      rw [h1] at h2
      have : m1 = m2 := by simpa using h2
      subst this
      exact Nat.le_refl _
  · by_cases h : r = r2
    · subst h
      have : theRow (rows.set r (some row')) r = some row' := theRow_of (by simp [hr2])
      rw [this] at h2
      have : row' = row2 := by simpa using h2
      subst this
      refine ⟨row, theRow_of hr, hv, fun hvv m' bb p ps l hm' hbb hl => ?_⟩
      rw [hm] at hm'
      have : m = m' := by simpa using hm'
      subst this
      exact hnav hvv bb _ l hbb hl
    · rw [theRow_set_ne h] at h2
      refine ⟨row2, h2, Nat.le_refl _, fun _ m' bb p ps l hm' hbb hl => ?_⟩
      have hr2' : (rows.set r none)[r2]? = some (some row2) := by rw [List.getElem?_set]; simp [h, theRow_eq h2]
      obtain ⟨m2, Y1, Y2, hm2, _, hat2, hY, _⟩ := hrest.take hr2'
      rw [hm'] at hm2
      have : m' = m2 := by simpa using hm2
      subst this
      rw [hbb] at hat2
      exact hat2.nav (fun b hb => hother b (by have := hY b; omega)) _ l hl

/-- A write into a row at its top. -/
theorem write_top {w w' : World} {F : FZ} {fm : Nat → Nat} {rows : Rows} {ms : Ms} {X Y : Cnt} {r off ver' : Nat} {row : Row} {ds : List D} {us : List Value} {b base : Nat} {m2 : Nat} (hr : rows[r]? = some (some row)) (hm : ms[r]? = some (some (b, base), m2))
    (hR : RowsRel w F fm rows ms X) (hd : RelL w F fm L0 ds us Y) (hst : ∀ d ∈ ds, storable d = true) (hX : ∀ b, X b + Y b ≤ 1) (hF : FOK w F) (hl : off + ds.length ≤ row.cells.length) (hpub : row.pub = true → row.fz ≤ off)
    (hw : Wrote w w' b (base + off) us) (hv : ver' = row.ver ∧ (∀ d ∈ ds, scalarD d = true) ∨ ver' = row.ver + 1) :
    ∃ X', RowsRel w' F fm (rows.set r (some { row with cells := layAt row.cells off ds, ver := ver' })) (ms.set r (some (b, base), ver')) X' ∧ (∀ c, X' c ≤ X c + Y c) ∧ FOK w' F ∧
      Ext w F (mkLoc w rows ms) (fun c => X c + Y c) w' F (mkLoc w' (rows.set r (some { row with cells := layAt row.cells off ds, ver := ver' })) (ms.set r (some (b, base), ver'))) X' := by
  obtain ⟨m, X1, X2, hm', hv0, hat, hXs, hrest⟩ := hR.take hr
  rw [hm] at hm'
  have hmm : (some (b, base), m2) = m := by simpa using hm'
  subst hmm
  obtain ⟨vs, Xc, ho, hb, hrl, hFb, hX1⟩ := hat
  have hus := hd.length
  have hvs := hrl.length
  obtain ⟨Z, hZ, hle⟩ := hrl.lay hd hl
  have hX1b : X1 b = Xc b + 1 := by have := hX1 b; simpa using this
  have hb0 : Z b = 0 ∧ X2 b = 0 := by have := hX b; have := hXs b; have := hle b; omega
  have hFj : ∀ j, F b j → ¬ (base + off ≤ j ∧ j < base + off + us.length) := fun j hf => by
    have := hFb j hf
    have := hpub this.1
    omega
  refine ⟨fun c => (Z c + if c = b then 1 else 0) + X2 c, ?_, fun c => ?_, hw.fok hF, ?_⟩
  · exact (hrest.keep (hw.keep hFj hb0.2)).put (row := { row with cells := layAt row.cells off ds, ver := ver' }) hm ⟨layV vs off us, Z, ho.lay (storableL_one hd hst) (by omega), hw.blk hb (by omega), hZ.keep (hw.keep hFj hb0.1) (LocLe.refl _), by show ∀ o, F b o → row.pub = true ∧ o < base + row.fz ∧ o < base + (layAt row.cells off ds).length; rw [layAt_length]; exact hFb, fun c => rfl⟩
  · have := hXs c; have := hle c; have := hX1 c
    dsimp only
    omega
  · refine hw.ext hFj (by have := hXs b; show X b + Y b ≠ 0; omega) (fun c hc => ?_) (mkLoc_write (row' := { row with cells := layAt row.cells off ds, ver := ver' }) hR hr hm hrest (fun c hc => hw.other c (fun e => by subst e; exact hc hb0.2)) (by dsimp only; omega) hv0 fun hvv bb q l hbb hq => ?_)
    · have := hXs c; have := hle c; have := hX1 c
      omega
    · dsimp only at hvv hbb hq
      have hsc : ∀ d ∈ ds, scalarD d = true := by
        rcases hv with h | h
        · exact h.2
        · omega
      have hbb' : bb = (b, base) := by simpa using hbb.symm
      subst hbb'
      refine navC_lay hrl hl hsc hb.cells (fun j hj hjj => ?_) (fun c hc => hw.other c fun e => by subst e; have := hX c; have := hXs c; omega) q l hq
      rw [hw.cell b (base + j) (fun _ => by omega)]
      exact hb.cells j hj

/-- A write into a nested own slice. -/
theorem write_nest {w w' : World} {F : FZ} {fm : Nat → Nat} {rows : Rows} {ms : Ms} {X Y : Cnt} {r p off ver' : Nat} {ps : List Nat} {row : Row} {cells ds : List D} {us : List Value} {b base : Nat} {m : Option (Nat × Nat) × Nat} (hr : rows[r]? = some (some row)) (hm : ms[r]? = some m)
    (hn : nav row.cells (p :: ps) = some cells) (hloc : locAt w rows ms r (p :: ps) row.ver = some (some (b, base)))
    (hR : RowsRel w F fm rows ms X) (hd : RelL w F fm L0 ds us Y) (hst : ∀ d ∈ ds, storable d = true) (hX : ∀ b, X b + Y b ≤ 1) (hF : FOK w F) (hl : off + ds.length ≤ cells.length) (hne : cells ≠ [])
    (hw : Wrote w w' b (base + off) us) (hv : ver' = row.ver ∧ (∀ d ∈ ds, scalarD d = true) ∨ ver' = row.ver + 1) :
    ∃ X', RowsRel w' F fm (rows.set r (some { row with cells := setNav row.cells (p :: ps) (layAt cells off ds), ver := ver' })) (ms.set r (m.1, ver')) X' ∧ (∀ c, X' c ≤ X c + Y c) ∧ FOK w' F ∧
      Ext w F (mkLoc w rows ms) (fun c => X c + Y c) w' F (mkLoc w' (rows.set r (some { row with cells := setNav row.cells (p :: ps) (layAt cells off ds), ver := ver' })) (ms.set r (m.1, ver'))) X' := by
  obtain ⟨m', X1, X2, hm', hv0, hat, hXs, hrest⟩ := hR.take hr
  rw [hm] at hm'
  have hmm : m = m' := by simpa using hm'
  subst hmm
  obtain ⟨m1, m2⟩ := m
  match m1, hat with
  | none, hat => rw [hat.1] at hn; simp [nav] at hn
  | some (b0, base0), ⟨vs, Xc, ho, hb, hrl, hFb, hX1⟩ =>
    obtain ⟨k2, n2, v2, Z1, R, g1, g2, g3, g4, g5, g6⟩ := nav_focus (p :: ps) row.cells vs Xc (b0, base0) cells (by simp) hrl hb.cells hn
    unfold Rel at g1
    obtain ⟨hl1, a, cap, hva, hcap, h | ⟨ad, vs1, Yn, ha, hs, ho1, hb1, hrl1, hFn, hX1n⟩⟩ := g1
    · exact absurd h.1 hne
    subst ha hva
    have hnv : navC w row.cells (b0, base0) (p :: ps) = some (.slice (some ad) n2 cap) := by
      have := g3 []
      rw [List.append_nil] at this
      rw [this]; rfl
    have hcap0 : 0 < cap := by
      rcases Nat.eq_zero_or_pos n2 with h0 | h0
      · subst h0
        exact absurd (List.eq_nil_of_length_eq_zero (by simpa using hl1)) hne
      · omega
    have hbb : (b, base) = (ad.block, ad.off) := by
      simp [locAt, theRow_of hr, hm, hnv, locV_some hcap0] at hloc
      simp [hloc]
    simp only [Prod.mk.injEq] at hbb
    obtain ⟨rfl, rfl⟩ := hbb
    have hus := hd.length
    have hvs := hrl1.length
    obtain ⟨Z, hZ, hle⟩ := hrl1.lay hd hl
    have hX1b : X1 b0 = Xc b0 + 1 := by have := hX1 b0; simpa using this
    have hZ1b : Z1 ad.block = Yn ad.block + 1 := by have := hX1n ad.block; simpa using this
    have hbne : ad.block ≠ b0 := fun e => by subst e; have := hX ad.block; have := hXs ad.block; have := g2 ad.block; omega
    have hb0 : Z ad.block = 0 ∧ X2 ad.block = 0 ∧ R ad.block = 0 := by have := hX ad.block; have := hXs ad.block; have := hle ad.block; have := g2 ad.block; have := hX1 ad.block; omega
    have hFj : ∀ j, F ad.block j → ¬ (ad.off + off ≤ j ∧ j < ad.off + off + us.length) := fun j hf => absurd hf (hFn j)
    have hnode : Rel w' F fm L0 (.slice true k2 n2 (layAt cells off ds)) (.slice (some ad) n2 cap) (fun c => Z c + if c = ad.block then 1 else 0) := by
      unfold Rel
      exact ⟨by rw [layAt_length]; exact hl1, some ad, cap, rfl, hcap, .inr ⟨ad, layV vs1 off us, Z, rfl, hs, ho1.lay (storableL_one hd hst) (by omega), hw.blk hb1 (by omega), hZ.keep (hw.keep hFj hb0.1) (LocLe.refl _), hFn, fun c => rfl⟩⟩
    have hcells' : ∀ j (h : j < vs.length), w'.cell? ⟨b0, base0 + j, none⟩ = some vs[j] := fun j hj => by
      rw [hw.cell b0 _ (fun e => absurd e.symm hbne)]; exact hb.cells j hj
    refine ⟨fun c => ((Z c + if c = ad.block then 1 else 0) + R c + if c = b0 then 1 else 0) + X2 c, ?_, fun c => ?_, hw.fok hF, ?_⟩
    · refine (hrest.keep (hw.keep hFj hb0.2.1)).put (row := { row with cells := setNav row.cells (p :: ps) (layAt cells off ds), ver := ver' }) hm ⟨vs, fun c => (Z c + if c = ad.block then 1 else 0) + R c, ho, ?_, ?_, ?_, fun c => rfl⟩
      · obtain ⟨c, e, z, h1, h2⟩ := hb
        exact ⟨c, e, z, (hw.other b0 hbne.symm).trans h1, h2⟩
      · rw [show ({ row with cells := setNav row.cells (p :: ps) (layAt cells off ds), ver := ver' } : Row).cells = setNav row.cells (p :: ps) (layAt cells off ds) from rfl, g4]
        exact g5 w' F _ _ (hw.keep hFj hb0.2.2) hnode
      · show ∀ o, F b0 o → row.pub = true ∧ o < base0 + row.fz ∧ o < base0 + (setNav row.cells (p :: ps) (layAt cells off ds)).length
        rw [g4, putNav_length _ _ _ (by simp)]
        exact hFb
    · have := hXs c; have := hle c; have := hX1 c; have := g2 c; have := hX1n c
      dsimp only
      omega
    · refine hw.ext hFj (by show X ad.block + Y ad.block ≠ 0; have := hXs ad.block; have := hX1 ad.block; have := g2 ad.block; omega) (fun c hc => ?_) (mkLoc_write (row' := { row with cells := setNav row.cells (p :: ps) (layAt cells off ds), ver := ver' }) hR hr hm hrest (fun c hc => hw.other c (fun e => by subst e; exact hc hb0.2.1)) (by dsimp only; omega) hv0 fun hvv bb q l hbb hq => ?_)
      · have := hXs c; have := hle c; have := hX1 c; have := g2 c; have := hX1n c
        omega
      · dsimp only at hvv hbb hq
        have hsc : ∀ d ∈ ds, scalarD d = true := by
          rcases hv with h | h
          · exact h.2
          · omega
        have hbb' : bb = (b0, base0) := by simpa using hbb.symm
        subst hbb'
        rw [g4] at hq
        refine g6 w' _ (fun c hc => hw.other c fun e => by subst e; exact hc hb0.2.2) hcells' (fun q l hq => ?_) q l hq
        cases q with
        | nil => simpa [navNode] using hq
        | cons j q =>
        simp only [navNode] at hq ⊢
        refine navC_lay hrl1 hl hsc hb1.cells (fun j hj hjj => ?_) (fun c hc => hw.other c fun e => by subst e; have := hX ad.block; have := hXs ad.block; have := g2 ad.block; have := hX1 ad.block; omega) (j :: q) l hq
        rw [hw.cell ad.block (ad.off + j) (fun _ => by omega)]
        exact hb1.cells j hj
end Av
namespace Av
open Go

theorem Blk.unfrozen {w b base vs room} (h : Blk w b base vs room) {o : Nat} (ho : o < vs.length) : w.frozen? ⟨b, base + o, none⟩ = false := by
  obtain ⟨c, e, z, h1, h2, _, _, h5⟩ := h
  have := h5 (base + o) (by omega)
  simp only [World.frozen?, h1]
  simp only [Bool.and_eq_false_iff, decide_eq_false_iff_not]
  omega

theorem run_storeCells {P : Program} {w : World} {b base off : Nat} {vs us : List Value} {room : Nat} (hb : Blk w b base vs room) (h1 : One us) (hl : off + us.length ≤ vs.length) :
    (storeCells ⟨b, base + off, none⟩ us).run P w = .ok () (w.setCells b (base + off) us) := by
  have := run_storeCells_cells (P := P) b (base + off) us 0 w (fun j hj => by
      rw [Nat.add_zero, Nat.add_assoc, hb.cells (off + j) (by omega)]; rfl) (fun j hj => by
      rw [Nat.add_zero, Nat.add_assoc]; exact hb.unfrozen (by omega)) h1
  simpa using this

theorem run_storeVar {P : Program} {w : World} {t : TypeId} {k b base off : Nat} {vs : List Value} {v : Value} {room : Nat} (hk : sizeT P t = some k) (hb : Blk w b base vs room) (h1 : One v.cells.toList) (hs : v.cells.size = k) (hl : off + k ≤ vs.length) :
    (Instr.storeAt t (.pointer (some ⟨b, base + off, none⟩)) v).run P w = .ok () (w.setCells b (base + off) v.cells.toList) := by
  have hst := run_storeCells (P := P) hb h1 (off := off) (by simpa [hs] using hl)
  simp [Instr.storeAt, Instr.sureAddr, storeVar, run_sizeT hk, hs, hst]

theorem setCells_some {cells : List D} {off : Nat} {vs cells' : List D} (h : setCells cells off vs = some cells') : off + vs.length ≤ cells.length ∧ cells' = layAt cells off vs := by
  unfold setCells at h
  split at h
  · rename_i hl; simp at h; exact ⟨hl, h.symm⟩
  · simp at h

theorem storeV_ok {P : Program} {w : World} {F : FZ} {fm : Nat → Nat} {rows rows' : Rows} {ms : Ms} {X : Cnt} {t : TypeId} {k : Nat} {scalar : Bool} {d x : D} {u v : Value} (hk : sizeT P t = some k) (hk0 : 0 < k)
    (h : storeV rows scalar k d x = some rows') (hd : Rel w F fm (mkLoc w rows ms) d u (fun _ => 0)) (hx : Rel w F fm (mkLoc w rows ms) x v (fun _ => 0)) (hR : RowsRel w F fm rows ms X) (hX : ∀ b, X b ≤ 1) (hF : FOK w F) :
    ∃ w' F' ms' X', (Instr.storeAt t u v).run P w = .ok () w' ∧ RowsRel w' F' fm rows' ms' X' ∧ (∀ b, X' b ≤ 1) ∧ FOK w' F' ∧ Ext w F (mkLoc w rows ms) X w' F' (mkLoc w' rows' ms') X' ∧ MsLe ms ms' := by
  unfold storeV at h
  split at h
  case h_1 => simp at h
  rename_i rows1 ds hg
  have hxne : x ≠ .undef := by rintro rfl; simp [comps, giveVs, giveV] at hg
  obtain ⟨F1, ms1, X1, Y1, hR1, hds, hE1, hm1, hF1, hle1⟩ := giveVs_ok _ hg hR (comps_ok hx hxne) (fun b => by have := hX b; omega) hF
  have hd1 := hE1.rel hd
  split at h
  case h_2 => simp at h
  rename_i r path ver off
  split at h
  case isFalse => simp at h
  rename_i hc
  obtain ⟨hlen, hst, hscal⟩ := hc
  split at h
  case h_1 => simp at h
  rename_i row cells hcell
  split at h
  case h_1 => simp at h
  rename_i cells' hset
  obtain ⟨hoff, rfl⟩ := setCells_some hset
  have hne : cells ≠ [] := by
    intro h0; subst h0
    have : off + ds.length ≤ 0 := hoff
    omega
  obtain ⟨b, base, vs, Xc, hl, ho, hcl, hrl, hrlt, hcur, hnest, hblk⟩ := cells_at hcell hne hR1
  unfold Rel at hd1
  obtain ⟨_, _, _, a, rfl, hloc⟩ := hd1
  have ha := hloc b base hl
  subst ha
  have hst' : ∀ d ∈ ds, storable d = true := by simpa using hst
  have hcs : v.cells.size = k := by have := hds.length; simp at this; omega
  have hvl := hrl.length
  have hrun := run_storeVar (P := P) (t := t) (v := v) hk hblk (storableL_one hds hst') hcs (off := off) (by omega)
  obtain ⟨c, e, z, hh1, hh2, _⟩ := hblk
  have hW : Wrote w (w.setCells b (base + off) v.cells.toList) b (base + off) v.cells.toList := setCells_wrote hh1 (by simp [hcs]; omega)
  have hX1 : ∀ c, X1 c + Y1 c ≤ 1 := fun c => by have h1 : X1 c + Y1 c ≤ X c + 0 := hle1 c; have h2 := hX c; omega
  have hver : (if scalar then row.ver else row.ver + 1) = row.ver ∧ (∀ d ∈ ds, scalarD d = true) ∨ (if scalar then row.ver else row.ver + 1) = row.ver + 1 := by
    cases scalar
    · right; rfl
    · left; exact ⟨rfl, by simpa using hscal⟩
  have fin : ∀ {rows2 : Rows} {ms2 : Ms} {X2 : Cnt}, RowsRel (w.setCells b (base + off) v.cells.toList) F1 fm rows2 ms2 X2 → (∀ c, X2 c ≤ X1 c + Y1 c) → FOK (w.setCells b (base + off) v.cells.toList) F1 →
      Ext w F1 (mkLoc w rows1 ms1) (fun c => X1 c + Y1 c) (w.setCells b (base + off) v.cells.toList) F1 (mkLoc (w.setCells b (base + off) v.cells.toList) rows2 ms2) X2 → MsLe ms1 ms2 →
      ∃ w' F' ms' X', (Instr.storeAt t (.pointer (some ⟨b, base + off, none⟩)) v).run P w = .ok () w' ∧ RowsRel w' F' fm rows2 ms' X' ∧ (∀ b, X' b ≤ 1) ∧ FOK w' F' ∧ Ext w F (mkLoc w rows ms) X w' F' (mkLoc w' rows2 ms') X' ∧ MsLe ms ms' :=
    fun {rows2 ms2 X2} h1 h2 h3 h4 h5 => ⟨_, F1, ms2, X2, hrun, h1, fun c => Nat.le_trans (h2 c) (hX1 c), h3, (hE1.trans h4).count (fun c hc => by simpa using hc) (fun c hc => .inl hc), hm1.trans h5⟩
  match path, hcell, hl, h with
  | [], hcell, hl, h =>
    obtain ⟨row', hr, he⟩ := cellsAt_top hcell
    simp only [Prod.mk.injEq] at he
    obtain ⟨rfl, rfl⟩ := he
    obtain ⟨m, hm, hmv⟩ := hR1.ver hr
    obtain ⟨m1, m2⟩ := m
    have hm1' : m1 = some (b, base) := by simpa [locAt, theRow_of hr, hm] using hl
    subst hm1'
    have hpub : row.pub = true → row.fz ≤ off := fun hp => by
      simp only [hp, if_true] at h
      split at h
      · assumption
      · simp at h
    have h' : rows1.set r (some { row with cells := layAt row.cells off ds, ver := if scalar then row.ver else row.ver + 1 }) = rows' := by
      simp only at h
      split at h
      · split at h
        · simpa using h
        · simp at h
      · simpa using h
    subst h'
    obtain ⟨X2, g1, g2, g3, g4⟩ := write_top hr hm hR1 hds hst' hX1 hF1 hoff hpub hW hver
    exact fin g1 g2 g3 g4 (MsLe.set hm _)
  | p :: ps, hcell, hl, h =>
    obtain ⟨row', hr, hv, hn, he⟩ := cellsAt_nest hcell
    simp only at he hn
    subst he
    subst hv
    obtain ⟨m, hm, hmv⟩ := hR1.ver hr
    simp only [Option.some.injEq] at h
    subst h
    obtain ⟨X2, g1, g2, g3, g4⟩ := write_nest hr hm hn hl hR1 hds hst' hX1 hF1 hoff hne hW hver
    exact fin g1 g2 g3 g4 (MsLe.set hm _)
end Av
namespace Av
open Go

/-- A new block. -/
structure Newed (w w' : World) (c : Array Value) : Prop where
  heap : ∃ e, w'.heap = w.heap.push (.cells c e)
  os : w'.os = w.os
  tape : w'.tape = w.tape
  output : w'.output = w.output

theorem Newed.old {w w' c} (h : Newed w w' c) {b : Nat} (hb : b < w.heap.size) : w'.heap[b]? = w.heap[b]? := by
  obtain ⟨e, he⟩ := h.heap
  rw [he, Array.getElem?_push]
  simp; omega
theorem Newed.new {w w' c} (h : Newed w w' c) : ∃ e, w'.heap[w.heap.size]? = some (.cells c e (0, 0)) := by
  obtain ⟨e, he⟩ := h.heap
  exact ⟨e, by rw [he]; simp⟩
theorem Newed.size {w w' c} (h : Newed w w' c) : w'.heap.size = w.heap.size + 1 := by
  obtain ⟨e, he⟩ := h.heap
  rw [he]; simp
theorem Newed.cell {w w' c} (h : Newed w w' c) {b o : Nat} (hb : b < w.heap.size) : w'.cell? ⟨b, o, none⟩ = w.cell? ⟨b, o, none⟩ := by simp [World.cell?, h.old hb]

theorem FOK.lt {w F} (h : FOK w F) {b o : Nat} (hf : F b o) : b < w.heap.size := by
  have := h b o hf
  rcases Nat.lt_or_ge b w.heap.size with h' | h'
  · exact h'
  · simp [World.cell?, Array.getElem?_eq_none h'] at this

theorem Newed.keep {w w' c F X} (h : Newed w w' c) (hF : FOK w F) (hX : ∀ b, X b ≠ 0 → b < w.heap.size) : Keep w F w' F X where
  cell b o hf := h.cell (hF.lt hf)
  own b hb := h.old (hX b hb)
  sub _ _ h := h
  not _ _ _ h := h
  has b n hh := by
    obtain ⟨c', e, z, h1, h2⟩ := hh
    have : b < w.heap.size := (Array.getElem?_eq_some_iff.1 h1).1
    exact ⟨c', e, z, (h.old this).trans h1, h2⟩

theorem Newed.fok {w w' c F} (h : Newed w w' c) (hF : FOK w F) : FOK w' F := fun b o hf => by rw [h.cell (hF.lt hf)]; exact hF b o hf

theorem Newed.ext {w w' c F L L' X X'} (h : Newed w w' c) (hF : FOK w F) (hX' : ∀ b, X' b ≠ 0 → X b ≠ 0 ∨ w.heap.size ≤ b) (hL : LocLe L L') : Ext w F L X w' F L' X' where
  cell b o hf := h.cell (hF.lt hf)
  sub _ _ h := h
  new _ _ h := .inl h
  own := hX'
  same b hb _ := h.old hb
  has b n hh := by
    obtain ⟨c', e, z, h1, h2⟩ := hh
    have : b < w.heap.size := (Array.getElem?_eq_some_iff.1 h1).1
    exact ⟨c', e, z, (h.old this).trans h1, h2⟩
  os := h.os
  tape := h.tape
  output := h.output
  size := by rw [h.size]; omega
  loc := hL

theorem Newed.blk {w w' c vs room} (h : Newed w w' c) (hv : ∀ j (hj : j < vs.length), c[j]? = some vs[j]) (hl : vs.length ≤ c.size) (hr : room ≤ c.size) : Blk w' w.heap.size 0 vs room := by
  obtain ⟨e, he⟩ := h.new
  exact ⟨c, e, (0, 0), he, by simpa using hl, by simpa using hr, fun j hj => by simpa using hv j hj, fun o _ => by simp⟩

/-- Nothing lies at the new block's number. -/
theorem lt_absurd {w : World} {X : Cnt} (hX : ∀ b, X b ≠ 0 → b < w.heap.size) : X w.heap.size = 0 := by
  rcases Nat.eq_zero_or_pos (X w.heap.size) with h | h
  · exact h
  · have := hX w.heap.size (by omega); omega

theorem mkLoc_world {w w' : World} {F : FZ} {fm : Nat → Nat} {rows : Rows} {ms : Ms} {X : Cnt} (hR : RowsRel w F fm rows ms X) (hh : ∀ b, X b ≠ 0 → w'.heap[b]? = w.heap[b]?) : LocLe (mkLoc w rows ms) (mkLoc w' rows ms) := by
  refine mkLoc_le hR (Nat.le_refl _) (MsLe.refl _) (fun r m m' h h' => ?_) (fun r row' hr h => ⟨row', h, Nat.le_refl _, fun _ m bb p ps l hm hbb hl => ?_⟩)
  · rw [h] at h'
    have : m = m' := by simpa using h'
    subst this; exact Nat.le_refl _
  · obtain ⟨m2, Y1, Y2, hm2, _, hat2, hY, _⟩ := hR.take (theRow_eq h)
    rw [hm] at hm2
    have : m = m2 := by simpa using hm2
    subst this
    rw [hbb] at hat2
    exact hat2.nav (fun b hb => hh b (by have := hY b; omega)) _ l hl

/-- An own slice in a new block. -/
theorem new_slice {w w' : World} {F : FZ} {fm : Nat → Nat} {rows : Rows} {ms : Ms} {X Y : Cnt} {c : Array Value} {ds : List D} {vs : List Value} {k n cap : Nat} (h : Newed w w' c) (hR : RowsRel w F fm rows ms X) (hF : FOK w F) (hX : ∀ b, X b + Y b ≤ 1)
    (hd : RelL w F fm L0 ds vs Y) (ho : One vs) (hv : ∀ j (hj : j < vs.length), c[j]? = some vs[j]) (hl : vs.length ≤ c.size) (hr : cap * k ≤ c.size) (hn : ds.length = n * k) (hc : n ≤ cap) :
    RowsRel w' F fm rows ms X ∧ Rel w' F fm L0 (.slice true k n ds) (.slice (some ⟨w.heap.size, 0, none⟩) n cap) (fun b => Y b + if b = w.heap.size then 1 else 0) ∧ FOK w' F ∧
      Ext w F (mkLoc w rows ms) (fun b => X b + Y b) w' F (mkLoc w' rows ms) (fun b => X b + (Y b + if b = w.heap.size then 1 else 0)) ∧ (∀ b, X b + (Y b + if b = w.heap.size then 1 else 0) ≤ 1) := by
  have hXlt : ∀ b, X b ≠ 0 → b < w.heap.size := fun b => hR.lt
  have hYlt : ∀ b, Y b ≠ 0 → b < w.heap.size := fun b => hd.lt
  refine ⟨hR.keep (h.keep hF hXlt), ?_, h.fok hF, h.ext hF (fun b hb => ?_) (mkLoc_world hR fun b hb => h.old (hXlt b hb)), fun b => ?_⟩
  · unfold Rel
    exact ⟨hn, _, cap, rfl, hc, .inr ⟨⟨w.heap.size, 0, none⟩, vs, Y, rfl, rfl, ho, h.blk hv hl hr, hd.keep (h.keep hF hYlt) (LocLe.refl _), fun o hf => by have : w.heap.size < w.heap.size := hF.lt hf; omega, fun b => rfl⟩⟩
  · show X b + Y b ≠ 0 ∨ w.heap.size ≤ b
    split at hb
    · right; omega
    · left; omega
  · have := hX b
    split
    · rename_i hb; subst hb
      have h1 := lt_absurd hXlt; have h2 := lt_absurd hYlt
      omega
    · omega

theorem madeV_ok {w : World} {F : FZ} {fm : Nat → Nat} {rows rows' : Rows} {ms : Ms} {X Y : Cnt} {m : Mode} {d res : D} {v : Value} (h : madeV m rows d = some (res, rows')) (hR : RowsRel w F fm rows ms X) (hd : Rel w F fm L0 d v Y) (hX : ∀ b, X b + Y b ≤ 1) (hF : FOK w F) :
    ∃ F' ms' X', RowsRel w F' fm rows' ms' X' ∧ Rel w F' fm (mkLoc w rows' ms') res v (fun _ => 0) ∧ Ext w F (mkLoc w rows ms) (fun b => X b + Y b) w F' (mkLoc w rows' ms') X' ∧ MsLe ms ms' ∧ FOK w F' ∧ (∀ b, X' b ≤ X b + Y b) := by
  have hd' : Rel w F fm (mkLoc w rows ms) d v Y := hd.keep (Keep.refl _ _ _) (LocLe.zero _)
  have own : ∀ {h : (let r := adoptV rows d; some (r.2, r.1)) = some (res, rows')}, ∃ F' ms' X', RowsRel w F' fm rows' ms' X' ∧ Rel w F' fm (mkLoc w rows' ms') res v (fun _ => 0) ∧ Ext w F (mkLoc w rows ms) (fun b => X b + Y b) w F' (mkLoc w rows' ms') X' ∧ MsLe ms ms' ∧ FOK w F' ∧ (∀ b, X' b ≤ X b + Y b) := fun {h} => by
    simp only [Option.some.injEq, Prod.mk.injEq] at h
    obtain ⟨rfl, rfl⟩ := h
    obtain ⟨ms', X', h1, h2, h3, h4, h5⟩ := adoptV_ok d hR hd' hX hF
    exact ⟨F, ms', X', h1, h2, Ext.still (fun _ _ h => h) (fun _ _ h => .inl h) (fun b hb => by rw [h5] at hb; exact hb) h3, h4, hF, fun b => by rw [h5]; exact Nat.le_refl _⟩
  cases m with
  | share =>
    simp only [madeV] at h
    obtain ⟨⟨rs, d'⟩, h1, h2⟩ := map_some h
    simp only [Prod.mk.injEq] at h2
    obtain ⟨rfl, rfl⟩ := h2
    obtain ⟨F', ms', X', Y', g1, ⟨g2, rfl⟩, g3, g4, g5, g6⟩ := shareV_ok d h1 hR hd' hX hF
    exact ⟨F', ms', X', g1, LocLe.of0 g2, g3.count (fun b hb => hb) (fun b hb => .inl (by simpa using hb)), g4, g5, fun b => by have : X' b + 0 ≤ X b + Y b := g6 b; omega⟩
  | _ => exact own (h := h)

/-- A new row at the top of a new block. -/
theorem new_row {w w' : World} {F : FZ} {fm : Nat → Nat} {rows : Rows} {ms : Ms} {X Y : Cnt} {c : Array Value} {ds : List D} {vs : List Value} (h : Newed w w' c) (hR : RowsRel w F fm rows ms X) (hF : FOK w F) (hX : ∀ b, X b + Y b ≤ 1)
    (hd : RelL w F fm L0 ds vs Y) (ho : One vs) (hv : ∀ j (hj : j < vs.length), c[j]? = some vs[j]) (hl : vs.length ≤ c.size) (pub : Bool) (fz : Nat) :
    RowsRel w' F fm (rows ++ [some { cells := ds, pub := pub, fz := fz }]) (ms ++ [(some (w.heap.size, 0), 0)]) (fun b => X b + (Y b + if b = w.heap.size then 1 else 0)) ∧ FOK w' F ∧
      Ext w F (mkLoc w rows ms) (fun b => X b + Y b) w' F (mkLoc w' (rows ++ [some { cells := ds, pub := pub, fz := fz }]) (ms ++ [(some (w.heap.size, 0), 0)])) (fun b => X b + (Y b + if b = w.heap.size then 1 else 0)) ∧
      (∀ b, X b + (Y b + if b = w.heap.size then 1 else 0) ≤ 1) ∧ (mkLoc w' (rows ++ [some { cells := ds, pub := pub, fz := fz }]) (ms ++ [(some (w.heap.size, 0), 0)])).at_ rows.length [] 0 = some (some (w.heap.size, 0)) := by
  have hXlt : ∀ b, X b ≠ 0 → b < w.heap.size := fun b => hR.lt
  have hYlt : ∀ b, Y b ≠ 0 → b < w.heap.size := fun b => hd.lt
  have hR' := hR.keep (h.keep hF hXlt)
  refine ⟨hR'.push (row := { cells := ds, pub := pub, fz := fz }) (m := some (w.heap.size, 0)) ⟨vs, Y, ho, h.blk hv hl (Nat.zero_le _), hd.keep (h.keep hF hYlt) (LocLe.refl _), fun o hf => by have := hF.lt hf; omega, fun b => rfl⟩ rfl, h.fok hF,
    h.ext hF (fun b hb => ?_) ((mkLoc_world hR fun b hb => h.old (hXlt b hb)).trans (mkLoc_push hR' _ _)), fun b => ?_, ?_⟩
  · show X b + Y b ≠ 0 ∨ w.heap.size ≤ b
    split at hb
    · right; omega
    · left; omega
  · have := hX b
    split
    · rename_i hb; subst hb
      have h1 := lt_absurd hXlt; have h2 := lt_absurd hYlt
      omega
    · omega
  · have := hR.length
    simp [mkLoc, locAt, theRow, this.symm]

theorem Rel.new_addr {w : World} {F : FZ} {fm : Nat → Nat} {L : Loc} {r b : Nat} (h : L.at_ r [] 0 = some (some (b, 0))) (hr : L.ok r) : Rel w F fm L (.addr r [] 0 0) (.pointer (some ⟨b, 0, none⟩)) (fun _ => 0) := by
  unfold Rel
  exact ⟨Zero.of_zero, hr, fun h => absurd rfl h, _, rfl, fun b' base h' => by rw [h] at h'; simp at h'; simp [h'.1, ← h'.2]⟩
end Av

/- A part of the proof: WorldsVisits: for every input the law returns true and the argument reads behind the call as it read before. Conditions: none. -/
import Derived.Test.YtndbkcpofkdbiaaWv4
import Derived.Test.YtndbkcpofkdbiaaWv1
import Derived.LoopN
import Derived.Scope
set_option linter.all false
namespace Av
open Go
set_option linter.unusedSimpArgs false
set_option linter.unusedVariables false
section
variable {T : Nat → Option Fun}
theorem div_norm {a b p u q : Nat} (hp : 0 < p) (heq : u + b * p * q = a * p) (hlt : u < b * p) : u / p = a % b ∧ q = a / b := by
  have h1 : b * p * q = b * q * p := by rw [Nat.mul_assoc, Nat.mul_comm p, ← Nat.mul_assoc]
  rw [h1] at heq
  have h2 : b * q ≤ a := Nat.le_of_mul_le_mul_right (show b * q * p ≤ a * p by omega) hp
  obtain ⟨r, rfl⟩ := Nat.exists_eq_add_of_le h2
  rw [Nat.add_mul] at heq
  have h3 : u = r * p := by omega
  subst h3
  have h4 : r < b := Nat.lt_of_mul_lt_mul_right hlt
  constructor
  · rw [Nat.mul_div_cancel _ hp, Nat.mul_add_mod, Nat.mod_eq_of_lt h4]
  · rw [Nat.mul_add_div (by omega), Nat.div_eq_of_lt h4, Nat.add_zero]

set_option maxRecDepth 8000 in
set_option maxHeartbeats 4000000 in
theorem divLong_ok (h : Has1 T) (A B : List Nat) (k : Nat) (dA : Dig A) (dB : Dig B) (L : Nat) (hla : L + (k + 2) ≤ 2 ^ 39) (hk : B.length = k + 2) (hnl : A.length = L + (k + 2)) (htop : B.getD (k + 1) 0 ≠ 0) :
    callW T 25 [.slice false 1 (L + (k + 2)) (dg A), .slice false 1 (k + 2) (dg B)] [] = some (.tup [natO (digs (val A / val B)), natO (digs (val A % val B))], []) := by
  refine callW_ev (h 25 (.code F.f25) rfl) rfl ?_
  simp only [F.f25, adoptVs, adoptV, List.cons_append, List.nil_append]
  have gt := dB.get (k + 1)
  obtain ⟨r0, r1, r2⟩ := shift_norm htop gt
  obtain ⟨n1, n2⟩ := norm_div dB hk htop
  have t1 := lead_ok h _ gt
  have b : bl (B.getD (k + 1) 0) ≤ 32 := bl_le (n := 32) (by omega)
  generalize 32 - bl (B.getD (k + 1) 0) = s at *
  have hp : ∃ p, p = 2 ^ s := ⟨_, rfl⟩
  obtain ⟨p, hp⟩ := hp
  have hp1 : 0 < p := by rw [hp]; exact Nat.pow_pos (by omega)
  have hp2 : p ≤ 2147483648 := by rw [hp]; exact Nat.pow_le_pow_right (n := 2) (by omega) (show s ≤ 31 by omega)
  have vA := val_lt dA
  have uA : val A * p < 4294967296 ^ (A.length + 1) := by
    have h1 : val A * p < 4294967296 ^ A.length * p := Nat.mul_lt_mul_of_pos_right vA hp1
    have h2 : 4294967296 ^ A.length * p ≤ 4294967296 ^ A.length * 4294967296 := Nat.mul_le_mul_left _ (by omega)
    rw [Nat.pow_succ]; omega
  have t2 := shiftLeft_ok h A s (A.length + 1) dA (by omega) r0 (by omega) (by rw [← hp]; exact uA) (by omega)
  have t3 := shiftLeft_ok h B s (k + 2) dB (by omega) r0 (by omega) n1 (by omega)
  rw [hk] at t3
  rw [hnl] at t2 uA
  rw [← hp] at t2 t3 n1 n2
  have dU := dig_digsN (L + (k + 2) + 1) (val A * p)
  have dV := dig_digsN (k + 2) (val B * p)
  have lU := digsN_length (L + (k + 2) + 1) (val A * p)
  have lV := digsN_length (k + 2) (val B * p)
  have vU := val_digsN _ _ uA
  have vV := val_digsN _ _ n1
  generalize digsN (L + (k + 2) + 1) (val A * p) = U0 at *
  generalize digsN (k + 2) (val B * p) = V at *
  have hroom : room (L + 1) 4 = true := room_t _ _ (by omega)
  simp only [Int.natCast_add, Int.cast_ofNat_Int] at t2 t3
  have c1 : ((k : Int) + 2 - 1).toNat = k + 1 := by omega
  have hldB : loadV [] false 1 (.faddr (dg B) (k + 1)) = some (.int .u32 (B.getD (k + 1) 0 : Nat)) := load_dg _ _ _ (by omega)
  have cs : IntKind.u64.wrap (s : Nat) = ((s : Nat) : Int) := wrap_u64' _ (by omega)
  have hldV : ∀ (rows : Rows) i, i < k + 2 → loadV rows false 1 (.faddr (dg V) i) = some (.int .u32 (V.getD i 0 : Nat)) := fun rows i hi => load_dg _ _ _ (by omega)
  have gV1 := dV.get (k + 1)
  have gV0 := dV.get k
  simp -implicitDefEqProofs (disch := first | omega | (apply calm_by; decide)) only [List.cons_append, List.nil_append, Ev_seq, Ev_region, Ev_skip, Ev_exit, Ev_ret, Ev_block, Ev_cond, Ev_ghost, Ev_draw_calm, GoOn_cmp, GoOn_nil, GoOn_thn, GoOn_thn_e, GoOn_thn_r, GoOn_blk, GoOn_blk_e, GoOn_blk_r, onN_n, onN_e, onN_r, Round_n, Round_e, Round_r, EvC_t, EvC_f, EvW_t, EvW_f, EvR_some, EvN_some, EvO_cons, EvO_nil, wanted, exec, put, passed, opd,
    List.length_cons, List.length_nil, Nat.zero_add, Nat.reduceAdd, List.replicate_succ, List.replicate_zero, List.set_cons_zero, List.set_cons_succ, List.getD_cons_zero, List.getD_cons_succ, Option.map_some, Option.map_none, List.map_cons, List.map_nil,
    bin_add, bin_sub, bin_mul, bin_eql, bin_neq, bin_lss, bin_leq, bin_gtr, bin_geq, bin_quo_nat, bin_rem_nat, bin_or_hi, bin_shr32, bin_shl32, lenV_slice, lenV_ref, ne_eq, not_false_eq_true, beq_true, beq_false, Bool.not_true, Bool.not_false, wrap_i64, wrap_u64, dec_t, dec_f, ite_t, ite_f, ibeq_t, ibeq_f, ibne_t, ibne_f, index_slice, index_ref, slice_slice_hi, slice_ref_hi, Int.natCast_add, Int.cast_ofNat_Int, Int.add_sub_cancel, Int.toNat_natCast, Int.toNat_natCast_add_one, Int.reduceToNat, Nat.mul_one, load_dg, shareL_dg, adoptV, if_true, if_false, ite_true, ite_false, Bool.true_eq, Bool.false_eq_true, beq_self_eq_true, reduceCtorEq, reduceIte, Nat.reduceMul, Nat.reduceSub, Nat.reduceLT, Nat.reduceLeDiff, Nat.reduceEqDiff, callV, takeArgs, takeV, lendArgs, lendV, lendVs, List.headD_cons, List.headD_nil, List.tail_cons, List.tail_nil, List.contains_cons, List.contains_nil, m_al, m_sl, m_ol, m_ll, m_la, m_ls, m_lo, Bool.or_false, Bool.or_true, Bool.false_or, Bool.true_or, idsL, ids, madeV, shareV, shareVs, adoptV, adoptVs, ownOnly, ownOnlyL, Bool.true_and, Bool.and_true, Bool.and_false, Bool.false_and, List.isEmpty_nil, List.isEmpty_cons, giveV, giveVs, Bool.not_false, Bool.not_true, reduceCtorEq, Bool.false_eq_true, if_false, if_true, norm, keepLive, compact, List.range_zero, List.range_succ, List.nil_append, List.cons_append, List.append_nil, List.contains_cons, List.contains_nil, Bool.or_false, Bool.or_true, Bool.false_or, Bool.true_or, Nat.reduceBEq, beq_self_eq_true, idsL, ids, addId, List.filter_cons, List.filter_nil, decide_true, decide_false, List.map_cons, List.map_nil, maskD, within, withinL, mapD, mapL, subRows, getRow, List.idxOf_cons, List.idxOf_nil, cond_true, cond_false, Bool.and_true, Bool.true_and, if_true, if_false, Bool.false_eq_true, List.length_cons, List.length_nil, Nat.zero_add, Nat.reduceAdd, Nat.reduceLT, List.getD_cons_zero, List.getD_cons_succ, List.set_cons_zero, List.set_cons_succ, reduceIte, reduceCtorEq, c1, hldB, t1, cs, t2, t3, hroom, zeros_u32, and_true, hldV]
  have hV1 : 0 < val V := by rw [vV]; have : 0 < 4294967296 ^ (k + 1) := Nat.pow_pos (by omega); omega
  have htg : 2147483648 ≤ V.getD (k + 1) 0 := top_ge dV lV (by rw [vV]; exact n2)
  have hU0 : val (U0.drop (L + 1)) < val V := by
    have h1 := val_split U0 (L + 1) (by omega)
    rw [vU] at h1
    have h2 : val A * p < 4294967296 ^ (L + (k + 2)) * p := by rw [← hnl]; exact Nat.mul_lt_mul_of_pos_right vA hp1
    have h3 : 4294967296 ^ (L + (k + 2)) * p = 4294967296 ^ (L + 1) * (4294967296 ^ (k + 1) * p) := by rw [← Nat.mul_assoc, ← Nat.pow_add, show L + 1 + (k + 1) = L + (k + 2) by omega]
    have h4 : 4294967296 ^ (L + 1) * val (U0.drop (L + 1)) < 4294967296 ^ (L + 1) * (4294967296 ^ (k + 1) * p) := by omega
    have h5 := Nat.lt_of_mul_lt_mul_left h4
    have h6 : 4294967296 ^ (k + 1) * p ≤ 4294967296 ^ (k + 1) * 2147483648 := Nat.mul_le_mul_left _ hp2
    rw [vV]
    omega
  have dZ : Dig (List.replicate (L + 1) 0) := fun z hz => by rw [List.eq_of_mem_replicate hz]; omega
  refine outer_ok h k s L _ _ U0 (List.replicate (L + 1) 0) V _ rfl rfl lV (by rw [List.length_replicate]) lU dU dZ dV (by omega) htg hV1 hU0 ?_ ?_
  · simp only [norm, keepLive, compact, List.range_zero, List.range_succ, List.nil_append, List.cons_append, List.append_nil, List.contains_cons, List.contains_nil, Bool.or_false, Bool.or_true, Bool.false_or, Bool.true_or, Nat.reduceBEq, beq_self_eq_true, idsL, ids, addId, List.filter_cons, List.filter_nil, decide_true, decide_false, List.map_cons, List.map_nil, maskD, within, withinL, mapD, mapL, subRows, getRow, List.idxOf_cons, List.idxOf_nil, cond_true, cond_false, Bool.and_true, Bool.true_and, if_true, if_false, Bool.false_eq_true, List.length_cons, List.length_nil, Nat.zero_add, Nat.reduceAdd, Nat.reduceLT, List.getD_cons_zero, List.getD_cons_succ, List.set_cons_zero, List.set_cons_succ, reduceIte, reduceCtorEq]; rfl
  rintro s' ⟨ts, U, Q, hU, hQ, dU', dQ, heq, hlt, rfl⟩
  have hUl : val U / p < 4294967296 ^ (k + 2) := by
    have h1 := Nat.div_le_self (val U) p
    rw [vV] at hlt
    omega
  rw [vU, vV] at heq
  rw [vV] at hlt
  obtain ⟨hrem, hquo⟩ := div_norm hp1 heq hlt
  have t4 := trim_own h Q dQ (by omega)
  have hD1 := digsN_length (k + 2) (val U / p)
  have t5 := trim_own h (digsN (k + 2) (val U / p)) (dig_digsN _ _) (by omega)
  have hRv := val_digsN (k + 2) (val U / p) hUl
  generalize hR : digsN (k + 2) (val U / p) = R at *
  rw [hRv, hD1, hrem] at t5
  rw [hquo, hQ] at t4
  have hroom2 : room (k + 2) 4 = true := room_t _ _ (by omega)
  simp only [st25]
  have c2 : ((k : Int) + 2).toNat = k + 2 := by omega
  simp -implicitDefEqProofs (disch := first | omega | (apply calm_by; decide)) only [List.cons_append, List.nil_append, Ev_seq, Ev_region, Ev_skip, Ev_exit, Ev_ret, Ev_block, Ev_cond, Ev_ghost, Ev_draw_calm, GoOn_cmp, GoOn_nil, GoOn_thn, GoOn_thn_e, GoOn_thn_r, GoOn_blk, GoOn_blk_e, GoOn_blk_r, onN_n, onN_e, onN_r, Round_n, Round_e, Round_r, EvC_t, EvC_f, EvW_t, EvW_f, EvR_some, EvN_some, EvO_cons, EvO_nil, wanted, exec, put, passed, opd,
    List.length_cons, List.length_nil, Nat.zero_add, Nat.reduceAdd, List.replicate_succ, List.replicate_zero, List.set_cons_zero, List.set_cons_succ, List.getD_cons_zero, List.getD_cons_succ, Option.map_some, Option.map_none, List.map_cons, List.map_nil,
    bin_add, bin_sub, bin_mul, bin_eql, bin_neq, bin_lss, bin_leq, bin_gtr, bin_geq, bin_quo_nat, bin_rem_nat, bin_or_hi, bin_shr32, bin_shl32, lenV_slice, lenV_ref, ne_eq, not_false_eq_true, beq_true, beq_false, Bool.not_true, Bool.not_false, wrap_i64, wrap_u64, dec_t, dec_f, ite_t, ite_f, ibeq_t, ibeq_f, ibne_t, ibne_f, index_slice, index_ref, slice_slice_hi, slice_ref_hi, Int.natCast_add, Int.cast_ofNat_Int, Int.add_sub_cancel, Int.toNat_natCast, Int.toNat_natCast_add_one, Int.reduceToNat, Nat.mul_one, load_dg, shareL_dg, adoptV, if_true, if_false, ite_true, ite_false, Bool.true_eq, Bool.false_eq_true, beq_self_eq_true, reduceCtorEq, reduceIte, Nat.reduceMul, Nat.reduceSub, Nat.reduceLT, Nat.reduceLeDiff, Nat.reduceEqDiff, callV, takeArgs, takeV, lendArgs, lendV, lendVs, List.headD_cons, List.headD_nil, List.tail_cons, List.tail_nil, List.contains_cons, List.contains_nil, m_al, m_sl, m_ol, m_ll, m_la, m_ls, m_lo, Bool.or_false, Bool.or_true, Bool.false_or, Bool.true_or, idsL, ids, madeV, shareV, shareVs, adoptV, adoptVs, ownOnly, ownOnlyL, Bool.true_and, Bool.and_true, Bool.and_false, Bool.false_and, List.isEmpty_nil, List.isEmpty_cons, giveV, giveVs, Bool.not_false, Bool.not_true, reduceCtorEq, Bool.false_eq_true, if_false, if_true, c2, hroom2, zeros_u32, and_true]
  refine rem_ok h k s L p _ U Q hU dU' (by omega) hp (by omega) ?_ ?_
  · simp only [norm, keepLive, compact, List.range_zero, List.range_succ, List.nil_append, List.cons_append, List.append_nil, List.contains_cons, List.contains_nil, Bool.or_false, Bool.or_true, Bool.false_or, Bool.true_or, Nat.reduceBEq, beq_self_eq_true, idsL, ids, addId, List.filter_cons, List.filter_nil, decide_true, decide_false, List.map_cons, List.map_nil, maskD, within, withinL, mapD, mapL, subRows, getRow, List.idxOf_cons, List.idxOf_nil, cond_true, cond_false, Bool.and_true, Bool.true_and, if_true, if_false, Bool.false_eq_true, List.length_cons, List.length_nil, Nat.zero_add, Nat.reduceAdd, Nat.reduceLT, List.getD_cons_zero, List.getD_cons_succ, List.set_cons_zero, List.set_cons_succ, reduceIte, reduceCtorEq]; rfl
  intro ts2
  rw [hR]
  have e4 : List.take (L + 1) Q = Q := List.take_of_length_le (by omega)
  have e5 : List.take (k + 2) R = R := List.take_of_length_le (by omega)
  simp only [stR]
  simp -implicitDefEqProofs (disch := first | omega | (apply calm_by; decide)) only [List.cons_append, List.nil_append, Ev_seq, Ev_region, Ev_skip, Ev_exit, Ev_ret, Ev_block, Ev_cond, Ev_ghost, Ev_draw_calm, GoOn_cmp, GoOn_nil, GoOn_thn, GoOn_thn_e, GoOn_thn_r, GoOn_blk, GoOn_blk_e, GoOn_blk_r, onN_n, onN_e, onN_r, Round_n, Round_e, Round_r, EvC_t, EvC_f, EvW_t, EvW_f, EvR_some, EvN_some, EvO_cons, EvO_nil, wanted, exec, put, passed, opd,
    List.length_cons, List.length_nil, Nat.zero_add, Nat.reduceAdd, List.replicate_succ, List.replicate_zero, List.set_cons_zero, List.set_cons_succ, List.getD_cons_zero, List.getD_cons_succ, Option.map_some, Option.map_none, List.map_cons, List.map_nil,
    bin_add, bin_sub, bin_mul, bin_eql, bin_neq, bin_lss, bin_leq, bin_gtr, bin_geq, bin_quo_nat, bin_rem_nat, bin_or_hi, bin_shr32, bin_shl32, lenV_slice, lenV_ref, ne_eq, not_false_eq_true, beq_true, beq_false, Bool.not_true, Bool.not_false, wrap_i64, wrap_u64, dec_t, dec_f, ite_t, ite_f, ibeq_t, ibeq_f, ibne_t, ibne_f, index_slice, index_ref, slice_slice_hi, slice_ref_hi, Int.natCast_add, Int.cast_ofNat_Int, Int.add_sub_cancel, Int.toNat_natCast, Int.toNat_natCast_add_one, Int.reduceToNat, Nat.mul_one, load_dg, shareL_dg, adoptV, if_true, if_false, ite_true, ite_false, Bool.true_eq, Bool.false_eq_true, beq_self_eq_true, reduceCtorEq, reduceIte, Nat.reduceMul, Nat.reduceSub, Nat.reduceLT, Nat.reduceLeDiff, Nat.reduceEqDiff, callV, takeArgs, takeV, lendArgs, lendV, lendVs, List.headD_cons, List.headD_nil, List.tail_cons, List.tail_nil, List.contains_cons, List.contains_nil, m_al, m_sl, m_ol, m_ll, m_la, m_ls, m_lo, Bool.or_false, Bool.or_true, Bool.false_or, Bool.true_or, idsL, ids, madeV, shareV, shareVs, adoptV, adoptVs, ownOnly, ownOnlyL, Bool.true_and, Bool.and_true, Bool.and_false, Bool.false_and, List.isEmpty_nil, List.isEmpty_cons, giveV, giveVs, Bool.not_false, Bool.not_true, reduceCtorEq, Bool.false_eq_true, if_false, if_true, dg_length, take_dg, List.take_length, ends_n, ends_r, results, resVs, resV, giveV, giveVs, shareV, theRow, List.getElem?_cons_zero, List.getElem?_cons_succ, Option.map_some, List.take_zero, List.take_nil, List.take_succ_cons, theRow, e4, e5, hQ, hD1, t4, t5, natO]
end
end Av
namespace Av
open Go
set_option linter.unusedSimpArgs false
set_option linter.unusedVariables false
section
variable {T : Nat → Option Fun}

theorem digs_top {n k : Nat} (h : (digs n).length = k + 1) : (digs n).getD k 0 ≠ 0 := by
  intro h0
  have hn : n ≠ 0 := fun hc => by rw [hc, digs_zero] at h; simp at h
  have h1 := digs_ge hn
  have h2 := val_take' (digs n) k
  rw [List.take_of_length_le (by omega), val_digs, h0, Nat.mul_zero, Nat.add_zero] at h2
  have h3 := val_lt ((dig_digs n).take k)
  rw [List.length_take, Nat.min_eq_left (by omega), ← h2] at h3
  rw [h, Nat.add_sub_cancel] at h1
  omega

set_option maxHeartbeats 1000000 in
theorem divMod_ok (h : Has1 T) (a b : List Nat) (ha : Dig a) (hb : Dig b) (hla : a.length ≤ 2 ^ 38) (hlb : b.length ≤ 2 ^ 38) (hb0 : val b ≠ 0) :
    callW T 23 [.slice false 1 a.length (dg a), .slice false 1 b.length (dg b)] [] = some (.tup [natO (digs (val a / val b)), natO (digs (val a % val b)), .bool true], []) := by
  refine callW_ev (h 23 (.code F.f23) rfl) rfl ?_
  simp only [F.f23, adoptVs, adoptV, List.cons_append, List.nil_append]
  have t1 := trim_shared h a ha (by omega)
  have t2 := trim_shared h b hb (by omega)
  have l1 := val_len ha
  have l2 := val_len hb
  have d1 := dig_digs (val a)
  have d2 := dig_digs (val b)
  have v1 := val_digs (val a)
  have v2 := val_digs (val b)
  have q1 := digs_lt_of_length (x := val a) (y := val b)
  have top : ∀ k, (digs (val b)).length = k + 1 → (digs (val b)).getD k 0 ≠ 0 := fun k hk => digs_top hk
  generalize val a = x at *
  generalize val b = y at *
  generalize hA : digs x = A at *
  generalize hB : digs y = B at *
  have tc := cmp_ok h A B d1 d2 (by omega) (by omega)
  rw [v1, v2] at tc
  have hB0 : B.length ≠ 0 := fun hc => by rw [List.eq_nil_of_length_eq_zero hc] at v2; exact hb0 v2.symm
  simp -implicitDefEqProofs (disch := first | omega | (apply calm_by; decide)) only [List.cons_append, List.nil_append, Ev_seq, Ev_region, Ev_skip, Ev_exit, Ev_ret, Ev_block, Ev_cond, Ev_ghost, Ev_draw_calm, GoOn_cmp, GoOn_nil, GoOn_thn, GoOn_thn_e, GoOn_thn_r, GoOn_blk, GoOn_blk_e, GoOn_blk_r, onN_n, onN_e, onN_r, Round_n, Round_e, Round_r, EvC_t, EvC_f, EvW_t, EvW_f, EvR_some, EvN_some, EvO_cons, EvO_nil, wanted, exec, put, passed, opd,
    List.length_cons, List.length_nil, Nat.zero_add, Nat.reduceAdd, List.replicate_succ, List.replicate_zero, List.set_cons_zero, List.set_cons_succ, List.getD_cons_zero, List.getD_cons_succ, Option.map_some, Option.map_none, List.map_cons, List.map_nil,
    bin_add, bin_sub, bin_mul, bin_eql, bin_neq, bin_lss, bin_leq, bin_gtr, bin_geq, bin_quo_nat, bin_rem_nat, bin_or_hi, bin_shr32, bin_shl32, lenV_slice, lenV_ref, ne_eq, not_false_eq_true, beq_true, beq_false, Bool.not_true, Bool.not_false, wrap_i64, wrap_u64, dec_t, dec_f, ite_t, ite_f, ibeq_t, ibeq_f, ibne_t, ibne_f, index_slice, index_ref, slice_slice_hi, slice_ref_hi, Int.natCast_add, Int.cast_ofNat_Int, Int.add_sub_cancel, Int.toNat_natCast, Int.toNat_natCast_add_one, Int.reduceToNat, Nat.mul_one, load_dg, shareL_dg, adoptV, if_true, if_false, ite_true, ite_false, Bool.true_eq, Bool.false_eq_true, beq_self_eq_true, reduceCtorEq, reduceIte, Nat.reduceMul, Nat.reduceSub, Nat.reduceLT, Nat.reduceLeDiff, Nat.reduceEqDiff, callV, takeArgs, takeV, lendArgs, lendV, lendVs, List.headD_cons, List.headD_nil, List.tail_cons, List.tail_nil, List.contains_cons, List.contains_nil, m_al, m_sl, m_ol, m_ll, m_la, m_ls, m_lo, Bool.or_false, Bool.or_true, Bool.false_or, Bool.true_or, idsL, ids, madeV, shareV, shareVs, adoptV, adoptVs, ownOnly, ownOnlyL, Bool.true_and, Bool.and_true, Bool.and_false, Bool.false_and, List.isEmpty_nil, List.isEmpty_cons, giveV, giveVs, Bool.not_false, Bool.not_true, reduceCtorEq, Bool.false_eq_true, if_false, if_true, t1, t2]
  by_cases c1 : x < y
  · have e : cmpI x y = -1 := by simp [cmpI, c1]
    have t3 := clone_ok h A d1 (by omega)
    rw [v1, hA] at t3
    have e1 : x / y = 0 := Nat.div_eq_of_lt c1
    have e2 : x % y = x := Nat.mod_eq_of_lt c1
    rw [e] at tc
    simp -implicitDefEqProofs (disch := first | omega | (apply calm_by; decide)) only [List.cons_append, List.nil_append, Ev_seq, Ev_region, Ev_skip, Ev_exit, Ev_ret, Ev_block, Ev_cond, Ev_ghost, Ev_draw_calm, GoOn_cmp, GoOn_nil, GoOn_thn, GoOn_thn_e, GoOn_thn_r, GoOn_blk, GoOn_blk_e, GoOn_blk_r, onN_n, onN_e, onN_r, Round_n, Round_e, Round_r, EvC_t, EvC_f, EvW_t, EvW_f, EvR_some, EvN_some, EvO_cons, EvO_nil, wanted, exec, put, passed, opd,
    List.length_cons, List.length_nil, Nat.zero_add, Nat.reduceAdd, List.replicate_succ, List.replicate_zero, List.set_cons_zero, List.set_cons_succ, List.getD_cons_zero, List.getD_cons_succ, Option.map_some, Option.map_none, List.map_cons, List.map_nil,
    bin_add, bin_sub, bin_mul, bin_eql, bin_neq, bin_lss, bin_leq, bin_gtr, bin_geq, bin_quo_nat, bin_rem_nat, bin_or_hi, bin_shr32, bin_shl32, lenV_slice, lenV_ref, ne_eq, not_false_eq_true, beq_true, beq_false, Bool.not_true, Bool.not_false, wrap_i64, wrap_u64, dec_t, dec_f, ite_t, ite_f, ibeq_t, ibeq_f, ibne_t, ibne_f, index_slice, index_ref, slice_slice_hi, slice_ref_hi, Int.natCast_add, Int.cast_ofNat_Int, Int.add_sub_cancel, Int.toNat_natCast, Int.toNat_natCast_add_one, Int.reduceToNat, Nat.mul_one, load_dg, shareL_dg, adoptV, if_true, if_false, ite_true, ite_false, Bool.true_eq, Bool.false_eq_true, beq_self_eq_true, reduceCtorEq, reduceIte, Nat.reduceMul, Nat.reduceSub, Nat.reduceLT, Nat.reduceLeDiff, Nat.reduceEqDiff, callV, takeArgs, takeV, lendArgs, lendV, lendVs, List.headD_cons, List.headD_nil, List.tail_cons, List.tail_nil, List.contains_cons, List.contains_nil, m_al, m_sl, m_ol, m_ll, m_la, m_ls, m_lo, Bool.or_false, Bool.or_true, Bool.false_or, Bool.true_or, idsL, ids, madeV, shareV, shareVs, adoptV, adoptVs, ownOnly, ownOnlyL, Bool.true_and, Bool.and_true, Bool.and_false, Bool.false_and, List.isEmpty_nil, List.isEmpty_cons, giveV, giveVs, Bool.not_false, Bool.not_true, reduceCtorEq, Bool.false_eq_true, if_false, if_true, dg_length, take_dg, List.take_length, ends_n, ends_r, results, resVs, resV, giveV, giveVs, shareV, theRow, List.getElem?_cons_zero, List.getElem?_cons_succ, Option.map_some, List.take_zero, List.take_nil, List.take_succ_cons, tc, t3, e1, e2, hA, digs_zero, natO]
    rfl
  have e : cmpI x y = 0 ∨ cmpI x y = 1 := by unfold cmpI; rw [if_neg c1]; split <;> simp
  have e0 : ¬ cmpI x y < 0 := by omega
  have eb : decide (cmpI x y < 0) = false := decide_eq_false e0
  by_cases c2 : B.length = 1
  · have eB : B = [B.getD 0 0] := by
      match B, c2 with
      | [d], _ => rfl
    have g := d2.get 0
    have hd : y = B.getD 0 0 := by
      rw [← v2]; conv => lhs; rw [eB]
      rw [val, val]; omega
    have t3 := divSmall_ok h A (B.getD 0 0) d1 (by omega) (by omega) g
    rw [v1, ← hd] at t3
    have hm : x % y < y := Nat.mod_lt _ (by omega)
    have t4 := from_ok h (x % y) (by omega)
    have ld : loadV [] false 1 (.faddr (dg B) 0) = some (.int .u32 (y : Nat)) := by rw [hd]; exact load_dg _ _ _ (by omega)
    simp -implicitDefEqProofs (disch := first | omega | (apply calm_by; decide)) only [List.cons_append, List.nil_append, Ev_seq, Ev_region, Ev_skip, Ev_exit, Ev_ret, Ev_block, Ev_cond, Ev_ghost, Ev_draw_calm, GoOn_cmp, GoOn_nil, GoOn_thn, GoOn_thn_e, GoOn_thn_r, GoOn_blk, GoOn_blk_e, GoOn_blk_r, onN_n, onN_e, onN_r, Round_n, Round_e, Round_r, EvC_t, EvC_f, EvW_t, EvW_f, EvR_some, EvN_some, EvO_cons, EvO_nil, wanted, exec, put, passed, opd,
    List.length_cons, List.length_nil, Nat.zero_add, Nat.reduceAdd, List.replicate_succ, List.replicate_zero, List.set_cons_zero, List.set_cons_succ, List.getD_cons_zero, List.getD_cons_succ, Option.map_some, Option.map_none, List.map_cons, List.map_nil,
    bin_add, bin_sub, bin_mul, bin_eql, bin_neq, bin_lss, bin_leq, bin_gtr, bin_geq, bin_quo_nat, bin_rem_nat, bin_or_hi, bin_shr32, bin_shl32, lenV_slice, lenV_ref, ne_eq, not_false_eq_true, beq_true, beq_false, Bool.not_true, Bool.not_false, wrap_i64, wrap_u64, dec_t, dec_f, ite_t, ite_f, ibeq_t, ibeq_f, ibne_t, ibne_f, index_slice, index_ref, slice_slice_hi, slice_ref_hi, Int.natCast_add, Int.cast_ofNat_Int, Int.add_sub_cancel, Int.toNat_natCast, Int.toNat_natCast_add_one, Int.reduceToNat, Nat.mul_one, load_dg, shareL_dg, adoptV, if_true, if_false, ite_true, ite_false, Bool.true_eq, Bool.false_eq_true, beq_self_eq_true, reduceCtorEq, reduceIte, Nat.reduceMul, Nat.reduceSub, Nat.reduceLT, Nat.reduceLeDiff, Nat.reduceEqDiff, callV, takeArgs, takeV, lendArgs, lendV, lendVs, List.headD_cons, List.headD_nil, List.tail_cons, List.tail_nil, List.contains_cons, List.contains_nil, m_al, m_sl, m_ol, m_ll, m_la, m_ls, m_lo, Bool.or_false, Bool.or_true, Bool.false_or, Bool.true_or, idsL, ids, madeV, shareV, shareVs, adoptV, adoptVs, ownOnly, ownOnlyL, Bool.true_and, Bool.and_true, Bool.and_false, Bool.false_and, List.isEmpty_nil, List.isEmpty_cons, giveV, giveVs, Bool.not_false, Bool.not_true, reduceCtorEq, Bool.false_eq_true, if_false, if_true, dg_length, take_dg, List.take_length, ends_n, ends_r, results, resVs, resV, giveV, giveVs, shareV, theRow, List.getElem?_cons_zero, List.getElem?_cons_succ, Option.map_some, List.take_zero, List.take_nil, List.take_succ_cons, tc, eb, ld, t3, t4, natO]
  · obtain ⟨k, hk⟩ : ∃ k, B.length = k + 2 := ⟨B.length - 2, by omega⟩
    obtain ⟨L, hL⟩ : ∃ L, A.length = L + (k + 2) := ⟨A.length - (k + 2), by
      rcases Nat.lt_or_ge A.length B.length with hc | hc
      · exact absurd (q1 hc) c1
      · omega⟩
    have t3 := divLong_ok h A B k d1 d2 L (by omega) hk hL (top (k + 1) hk)
    rw [v1, v2, ← hL, ← hk] at t3
    simp -implicitDefEqProofs (disch := first | omega | (apply calm_by; decide)) only [List.cons_append, List.nil_append, Ev_seq, Ev_region, Ev_skip, Ev_exit, Ev_ret, Ev_block, Ev_cond, Ev_ghost, Ev_draw_calm, GoOn_cmp, GoOn_nil, GoOn_thn, GoOn_thn_e, GoOn_thn_r, GoOn_blk, GoOn_blk_e, GoOn_blk_r, onN_n, onN_e, onN_r, Round_n, Round_e, Round_r, EvC_t, EvC_f, EvW_t, EvW_f, EvR_some, EvN_some, EvO_cons, EvO_nil, wanted, exec, put, passed, opd,
    List.length_cons, List.length_nil, Nat.zero_add, Nat.reduceAdd, List.replicate_succ, List.replicate_zero, List.set_cons_zero, List.set_cons_succ, List.getD_cons_zero, List.getD_cons_succ, Option.map_some, Option.map_none, List.map_cons, List.map_nil,
    bin_add, bin_sub, bin_mul, bin_eql, bin_neq, bin_lss, bin_leq, bin_gtr, bin_geq, bin_quo_nat, bin_rem_nat, bin_or_hi, bin_shr32, bin_shl32, lenV_slice, lenV_ref, ne_eq, not_false_eq_true, beq_true, beq_false, Bool.not_true, Bool.not_false, wrap_i64, wrap_u64, dec_t, dec_f, ite_t, ite_f, ibeq_t, ibeq_f, ibne_t, ibne_f, index_slice, index_ref, slice_slice_hi, slice_ref_hi, Int.natCast_add, Int.cast_ofNat_Int, Int.add_sub_cancel, Int.toNat_natCast, Int.toNat_natCast_add_one, Int.reduceToNat, Nat.mul_one, load_dg, shareL_dg, adoptV, if_true, if_false, ite_true, ite_false, Bool.true_eq, Bool.false_eq_true, beq_self_eq_true, reduceCtorEq, reduceIte, Nat.reduceMul, Nat.reduceSub, Nat.reduceLT, Nat.reduceLeDiff, Nat.reduceEqDiff, callV, takeArgs, takeV, lendArgs, lendV, lendVs, List.headD_cons, List.headD_nil, List.tail_cons, List.tail_nil, List.contains_cons, List.contains_nil, m_al, m_sl, m_ol, m_ll, m_la, m_ls, m_lo, Bool.or_false, Bool.or_true, Bool.false_or, Bool.true_or, idsL, ids, madeV, shareV, shareVs, adoptV, adoptVs, ownOnly, ownOnlyL, Bool.true_and, Bool.and_true, Bool.and_false, Bool.false_and, List.isEmpty_nil, List.isEmpty_cons, giveV, giveVs, Bool.not_false, Bool.not_true, reduceCtorEq, Bool.false_eq_true, if_false, if_true, dg_length, take_dg, List.take_length, ends_n, ends_r, results, resVs, resV, giveV, giveVs, shareV, theRow, List.getElem?_cons_zero, List.getElem?_cons_succ, Option.map_some, List.take_zero, List.take_nil, List.take_succ_cons, tc, eb, t3, natO]
end
end Av
namespace Av
open Go
set_option linter.unusedSimpArgs false
set_option linter.unusedVariables false
/-- The integers of a list. -/
def di (a : List Int) : List D := a.map fun z => .int .i64 z
theorem shareL_di : ∀ a : List Int, shareL (di a) = di a
  | [] => by simp [di, shareL]
  | x :: a => by
    have := shareL_di a
    simp only [di] at this
    simp only [di, List.map_cons, shareL, shareD, this]
theorem di_length (a : List Int) : (di a).length = a.length := by simp [di]
theorem load_di (rows : Rows) (a : List Int) (i : Nat) (h : i < a.length) : loadV rows false 1 (.faddr (di a) i) = some (.int .i64 (a.getD i 0)) := load_faddr _ _ _ _ (by simp [di, h])

theorem toNat_ofInt_and (k : Nat) (a : Int) (j : Nat) (h : j ≤ k) : (BitVec.ofInt k a &&& BitVec.ofInt k ((2 ^ j - 1 : Nat) : Int)).toNat = (a % (2 ^ j : Nat)).toNat := by
  rw [BitVec.toNat_and, BitVec.toNat_ofInt, BitVec.toNat_ofInt]
  have h1 : (((2 ^ j - 1 : Nat) : Int) % ((2 ^ k : Nat) : Int)).toNat = 2 ^ j - 1 := by
    have h2 : 2 ^ j ≤ 2 ^ k := Nat.pow_le_pow_right (by omega) h
    have h3 : 0 < 2 ^ j := Nat.pow_pos (by omega)
    rw [← Int.natCast_emod, Int.toNat_natCast, Nat.mod_eq_of_lt (by omega)]
  rw [h1, Nat.and_two_pow_sub_one_eq_mod]
  have h4 : ((2 ^ j : Nat) : Int) ∣ ((2 ^ k : Nat) : Int) := Int.natCast_dvd_natCast.2 (Nat.pow_dvd_pow 2 h)
  have h5 : 0 < ((2 ^ k : Nat) : Int) := by have : 0 < 2 ^ k := Nat.pow_pos (by omega); omega
  have h6 := Int.emod_nonneg a (show ((2 ^ k : Nat) : Int) ≠ 0 by omega)
  have h7 : (((a % ((2 ^ k : Nat) : Int)).toNat % 2 ^ j : Nat) : Int) = a % ((2 ^ j : Nat) : Int) := by
    rw [Int.natCast_emod, Int.toNat_of_nonneg h6, Int.emod_emod_of_dvd _ h4]
  omega
theorem bin_and_i64 (a : Int) : bin .and (.int .i64 a) (.int .i64 65535) = some (.int .i64 ((a % 65536).toNat : Nat)) := by
  rw [bin_and]
  have h := toNat_ofInt_and 64 a 16 (by omega)
  simp only [Nat.reducePow, Nat.reduceSub, Int.cast_ofNat_Int] at h
  rw [show IntKind.i64.bits = 64 from rfl, h, wrap_i64 _ (by omega)]
/-- credencebase.At. -/
def atN (raw : List Int) (i : Nat) : Nat := if raw.length = 0 then i % 65536 else (raw.getD (i % raw.length) 0 % 65536).toNat + i / raw.length
theorem atN_le (raw : List Int) (i : Nat) : atN raw i < 65536 + i := by
  unfold atN
  have := Nat.div_le_self i raw.length
  split <;> omega

section
variable {T : Nat → Option Fun}
theorem at_ok (h : Has1 T) (raw : List Int) (i : Nat) (hl : raw.length < 2 ^ 63) (hi : i < 2 ^ 40) : callW T 1 [.slice false 1 raw.length (di raw), .int .i64 i] [] = some (.int .i64 (atN raw i : Nat), []) := by
  refine callW_ev (h 1 (.code F.f1) rfl) rfl ?_
  simp only [F.f1, adoptVs, adoptV, List.cons_append, List.nil_append]
  by_cases c : raw.length = 0
  · have e : atN raw i = i % 65536 := by unfold atN; rw [if_pos c]
    have e2 : ((((i : Nat) : Int) % 65536).toNat : Nat) = i % 65536 := by omega
    simp -implicitDefEqProofs (disch := first | omega | (apply calm_by; decide)) only [List.cons_append, List.nil_append, Ev_seq, Ev_region, Ev_skip, Ev_exit, Ev_ret, Ev_block, Ev_cond, Ev_ghost, Ev_draw_calm, GoOn_cmp, GoOn_nil, GoOn_thn, GoOn_thn_e, GoOn_thn_r, GoOn_blk, GoOn_blk_e, GoOn_blk_r, onN_n, onN_e, onN_r, Round_n, Round_e, Round_r, EvC_t, EvC_f, EvW_t, EvW_f, EvR_some, EvN_some, EvO_cons, EvO_nil, wanted, exec, put, passed, opd,
    List.length_cons, List.length_nil, Nat.zero_add, Nat.reduceAdd, List.replicate_succ, List.replicate_zero, List.set_cons_zero, List.set_cons_succ, List.getD_cons_zero, List.getD_cons_succ, Option.map_some, Option.map_none, List.map_cons, List.map_nil,
    bin_add, bin_sub, bin_mul, bin_eql, bin_neq, bin_lss, bin_leq, bin_gtr, bin_geq, bin_quo_nat, bin_rem_nat, bin_or_hi, bin_shr32, bin_shl32, lenV_slice, lenV_ref, ne_eq, not_false_eq_true, beq_true, beq_false, Bool.not_true, Bool.not_false, wrap_i64, wrap_u64, dec_t, dec_f, ite_t, ite_f, ibeq_t, ibeq_f, ibne_t, ibne_f, index_slice, index_ref, slice_slice_hi, slice_ref_hi, Int.natCast_add, Int.cast_ofNat_Int, Int.add_sub_cancel, Int.toNat_natCast, Int.toNat_natCast_add_one, Int.reduceToNat, Nat.mul_one, load_dg, shareL_dg, adoptV, if_true, if_false, ite_true, ite_false, Bool.true_eq, Bool.false_eq_true, beq_self_eq_true, reduceCtorEq, reduceIte, Nat.reduceMul, Nat.reduceSub, Nat.reduceLT, Nat.reduceLeDiff, Nat.reduceEqDiff, callV, takeArgs, takeV, lendArgs, lendV, lendVs, List.headD_cons, List.headD_nil, List.tail_cons, List.tail_nil, List.contains_cons, List.contains_nil, m_al, m_sl, m_ol, m_ll, m_la, m_ls, m_lo, Bool.or_false, Bool.or_true, Bool.false_or, Bool.true_or, idsL, ids, madeV, shareV, shareVs, adoptV, adoptVs, ownOnly, ownOnlyL, Bool.true_and, Bool.and_true, Bool.and_false, Bool.false_and, List.isEmpty_nil, List.isEmpty_cons, giveV, giveVs, Bool.not_false, Bool.not_true, reduceCtorEq, Bool.false_eq_true, if_false, if_true, dg_length, take_dg, List.take_length, ends_n, ends_r, results, resVs, resV, giveV, giveVs, shareV, theRow, List.getElem?_cons_zero, List.getElem?_cons_succ, Option.map_some, List.take_zero, List.take_nil, List.take_succ_cons, bin_and_i64, e, e2]
  · have e : atN raw i = (raw.getD (i % raw.length) 0 % 65536).toNat + i / raw.length := by unfold atN; rw [if_neg c]
    have hlt := Nat.mod_lt i (show 0 < raw.length by omega)
    have hdl := Nat.div_le_self i raw.length
    have e1 : bin .rem (.int .i64 (i : Nat)) (.int .i64 (raw.length : Nat)) = some (.int .i64 (i % raw.length : Nat)) := bin_rem_nat _ _ _ (by omega)
    have e2 : bin .quo (.int .i64 (i : Nat)) (.int .i64 (raw.length : Nat)) = some (.int .i64 (i / raw.length : Nat)) := by
      rw [bin_quo _ _ _ (by omega), Int.tdiv_eq_ediv_of_nonneg (by omega), ← Int.natCast_ediv, wrap_i64 _ (by omega)]
    have e3 := load_di [] raw (i % raw.length) hlt
    rw [e]
    generalize i % raw.length = j at *
    generalize i / raw.length = q at *
    generalize raw.getD j 0 = z at *
    simp -implicitDefEqProofs (disch := first | omega | (apply calm_by; decide)) only [List.cons_append, List.nil_append, Ev_seq, Ev_region, Ev_skip, Ev_exit, Ev_ret, Ev_block, Ev_cond, Ev_ghost, Ev_draw_calm, GoOn_cmp, GoOn_nil, GoOn_thn, GoOn_thn_e, GoOn_thn_r, GoOn_blk, GoOn_blk_e, GoOn_blk_r, onN_n, onN_e, onN_r, Round_n, Round_e, Round_r, EvC_t, EvC_f, EvW_t, EvW_f, EvR_some, EvN_some, EvO_cons, EvO_nil, wanted, exec, put, passed, opd,
    List.length_cons, List.length_nil, Nat.zero_add, Nat.reduceAdd, List.replicate_succ, List.replicate_zero, List.set_cons_zero, List.set_cons_succ, List.getD_cons_zero, List.getD_cons_succ, Option.map_some, Option.map_none, List.map_cons, List.map_nil,
    bin_add, bin_sub, bin_mul, bin_eql, bin_neq, bin_lss, bin_leq, bin_gtr, bin_geq, bin_quo_nat, bin_rem_nat, bin_or_hi, bin_shr32, bin_shl32, lenV_slice, lenV_ref, ne_eq, not_false_eq_true, beq_true, beq_false, Bool.not_true, Bool.not_false, wrap_i64, wrap_u64, dec_t, dec_f, ite_t, ite_f, ibeq_t, ibeq_f, ibne_t, ibne_f, index_slice, index_ref, slice_slice_hi, slice_ref_hi, Int.natCast_add, Int.cast_ofNat_Int, Int.add_sub_cancel, Int.toNat_natCast, Int.toNat_natCast_add_one, Int.reduceToNat, Nat.mul_one, load_dg, shareL_dg, adoptV, if_true, if_false, ite_true, ite_false, Bool.true_eq, Bool.false_eq_true, beq_self_eq_true, reduceCtorEq, reduceIte, Nat.reduceMul, Nat.reduceSub, Nat.reduceLT, Nat.reduceLeDiff, Nat.reduceEqDiff, callV, takeArgs, takeV, lendArgs, lendV, lendVs, List.headD_cons, List.headD_nil, List.tail_cons, List.tail_nil, List.contains_cons, List.contains_nil, m_al, m_sl, m_ol, m_ll, m_la, m_ls, m_lo, Bool.or_false, Bool.or_true, Bool.false_or, Bool.true_or, idsL, ids, madeV, shareV, shareVs, adoptV, adoptVs, ownOnly, ownOnlyL, Bool.true_and, Bool.and_true, Bool.and_false, Bool.false_and, List.isEmpty_nil, List.isEmpty_cons, giveV, giveVs, Bool.not_false, Bool.not_true, reduceCtorEq, Bool.false_eq_true, if_false, if_true, dg_length, take_dg, List.take_length, ends_n, ends_r, results, resVs, resV, giveV, giveVs, shareV, theRow, List.getElem?_cons_zero, List.getElem?_cons_succ, Option.map_some, List.take_zero, List.take_nil, List.take_succ_cons, bin_and_i64, e1, e2, e3, shareL_di, norm, keepLive, compact, List.range_zero, List.range_succ, List.nil_append, List.cons_append, List.append_nil, List.contains_cons, List.contains_nil, Bool.or_false, Bool.or_true, Bool.false_or, Bool.true_or, Nat.reduceBEq, beq_self_eq_true, idsL, ids, addId, List.filter_cons, List.filter_nil, decide_true, decide_false, List.map_cons, List.map_nil, maskD, within, withinL, mapD, mapL, subRows, getRow, List.idxOf_cons, List.idxOf_nil, cond_true, cond_false, Bool.and_true, Bool.true_and, if_true, if_false, Bool.false_eq_true, List.length_cons, List.length_nil, Nat.zero_add, Nat.reduceAdd, Nat.reduceLT, List.getD_cons_zero, List.getD_cons_succ, List.set_cons_zero, List.set_cons_succ, reduceIte, reduceCtorEq]

/-- k fractions 0, and a block of them. -/
def zf (k : Nat) : List D := zeros [.bool false, .slice false 1 0 [], .slice false 1 0 []] k
def blk (k : Nat) : D := .slice false 3 k (zf k)
theorem shareL_append : ∀ a b : List D, shareL (a ++ b) = shareL a ++ shareL b
  | [], b => rfl
  | x :: a, b => by simp only [List.cons_append, shareL, shareL_append a b]
/-- credencebase.Nat on one digit. -/
def natF (d : Nat) : Nat := if d % 8 = 7 then 4294967295 - d / 268435456 else d
end
end Av
namespace Av
open Go
/-- The integers of cells. -/
def intsOf : List D → Option (List Int)
  | [] => some []
  | .int .i64 z :: ds => (intsOf ds).map fun zs => z :: zs
  | _ => none
theorem intsOf_eq : ∀ {cs : List D} {zs : List Int}, intsOf cs = some zs → cs = di zs
  | [], zs, h => by
    simp only [intsOf, Option.some.injEq] at h
    subst h; rfl
  | d :: ds, zs, h => by
    unfold intsOf at h
    split at h
    · rename_i h1; cases h1
    · rename_i z ds' h1
      cases h1
      obtain ⟨ys, h2, h3⟩ := Option.map_eq_some_iff.1 h
      subst h3
      rw [intsOf_eq h2]; rfl
    · simp at h
theorem intsOf_di : ∀ zs : List Int, intsOf (di zs) = some zs
  | [] => rfl
  | z :: zs => by
    have := intsOf_di zs
    simp only [di] at this
    simp only [di, List.map_cons, intsOf, this, Option.map_some]
/-- slices.Clone of integers. -/
def cloneP (args : List D) (rows : Rows) : Option (D × Rows) :=
  match args, rows with
  | [.slice false 1 n cs], [] => match intsOf cs with
    | some _ => if room n 8 then some (.slice true 1 n cs, []) else none
    | none => none
  | _, _ => none
theorem cloneP_di (zs : List Int) (n : Nat) (h : room n 8 = true) : cloneP [.slice false 1 n (di zs)] [] = some (.slice true 1 n (di zs), []) := by
  simp only [cloneP, intsOf_di, h, if_true]
theorem cloneP_some {args : List D} {rows rows' : Rows} {res : D} (h : cloneP args rows = some (res, rows')) : ∃ n zs, args = [.slice false 1 n (di zs)] ∧ rows = [] ∧ res = .slice true 1 n (di zs) ∧ rows' = [] ∧ n * 8 ≤ 140737488355328 := by
  unfold cloneP at h
  split at h
  · rename_i n cs
    split at h
    · rename_i zs hz
      split at h
      · rename_i hr
        have e := intsOf_eq hz
        subst e
        simp only [Option.some.injEq, Prod.mk.injEq] at h
        exact ⟨n, zs, rfl, rfl, h.1.symm, h.2.symm, by simpa [room] using hr⟩
      · cases h
    · cases h
  · cases h

end Av
namespace Av
open Go
def tab2 : List Fun := [.code F.f62, .code F.f63, .code F.f64, .code F.f65, .code F.f66, .code F.f67, .prim cloneP]
def Has2 (T : Nat → Option Fun) : Prop := Has1 T ∧ ∀ g f, tab2[g]? = some f → T (g + 62) = some f
def T2 (g : Nat) : Option Fun := (tab1 ++ tab2)[g]?
theorem has2 : Has2 T2 := by
  refine ⟨fun g f h => ?_, fun g f h => ?_⟩
  · have : g < tab1.length := (List.getElem?_eq_some_iff.1 h).1
    rw [T2, List.getElem?_append_left this]; exact h
  · rw [T2, List.getElem?_append_right (by simp [tab1])]
    simpa [tab1] using h
end Av
namespace Av
open Go

abbrev DSt := St × List (List Nat)

structure Eff where
  v : Option D
  fp : List Nat
  Lw : List Nat
  back : Rows

def setV (dst : Option Nat) (v : D) (vars : List D) : List D := match dst with | some d => vars.set d v | none => vars
def setT (dst : Option Nat) (i : Nat) (v : D) (ts : List D) : List D := match dst with | some _ => ts | none => ts.set i v

def Eff.run (e : Eff) (i : Nat) (dst : Option Nat) (s : DSt) : DSt :=
  ({ s.1 with vars := setV dst (e.v.getD .undef) s.1.vars, ts := setT dst i (e.v.getD (.tup [])) s.1.ts, rows := writeL s.1.rows e.Lw e.back }, match e.v with | none => s.2 | some _ => s.2.set i e.fp)

def Same (x : AOper) (s s2 : DSt) : Prop := (∀ y ∈ x.op.opds, opd s.1.vars s.1.ts y = opd s2.1.vars s2.1.ts y) ∧ wanted s.1.ts x.guard = wanted s2.1.ts x.guard

structure Local (callF : CallF) (ks : List Nat) (b i : Nat) (x : AOper) (s : DSt) (e : Eff) : Prop where
  step : stepD callF ks b i x s = some (e.run i x.dst s)
  wr : ∀ r ∈ e.Lw, r ∈ writes x.op e.fp (slotsAt b ks i)
  no : e.v = none → e.fp = [] ∧ e.Lw = []
  loc : ∀ s2 : DSt, Same x s s2 → (∀ r ∈ reads x.op e.fp, getRow s2.1.rows r = getRow s.1.rows r) → stepD callF ks b i x s2 = some (e.run i x.dst s2)

theorem put_eq {i : Nat} {dst : Option Nat} {v : D} {rows : Rows} {st : St} : put i dst v rows st = { st with vars := setV dst v st.vars, ts := setT dst i v st.ts, rows } := by
  cases dst <;> rfl
theorem passed_eq {i : Nat} {dst : Option Nat} {st : St} : passed i dst st = { st with vars := setV dst .undef st.vars, ts := setT dst i (.tup []) st.ts } := by
  cases dst <;> rfl
theorem writeL_append {α : Type} : ∀ (l new : List Nat) (xs ys zs : List α), ys.length = l.length → writeL xs (l ++ new) (ys ++ zs) = writeL (writeL xs l ys) new zs
  | [], new, xs, ys, zs, h => by
    have : ys = [] := List.eq_nil_of_length_eq_zero h
    subst this
    simp [writeL]
  | i :: l, new, xs, [], zs, h => by simp at h
  | i :: l, new, xs, y :: ys, zs, h => by
    simp only [List.cons_append, writeL]
    exact writeL_append l new _ ys zs (by simpa using h)
theorem writeL_same : ∀ (l : List Nat) (rows : Rows), writeL rows l (subRows rows l) = rows
  | [], rows => by simp [writeL]
  | i :: l, rows => by
    simp only [subRows, List.map_cons, writeL]
    have e : rows.set i (getRow rows i) = rows := by
      apply List.ext_getElem?
      intro j
      rw [List.getElem?_set]
      split
      · rename_i h; subst h
        split
        · rename_i h; simp [getRow, List.getD, List.getElem?_eq_getElem h]
        · rename_i h; simp [List.getElem?_eq_none (Nat.le_of_not_lt h)]
      · rfl
    rw [e]
    exact writeL_same l rows
theorem writeL_set {α : Type} {i : Nat} {y : α} : ∀ (l : List Nat) (xs ys : List α), i ∉ l → (writeL xs l ys).set i y = writeL (xs.set i y) l ys
  | [], _, _, _ => by simp [writeL]
  | _ :: _, _, [], _ => by simp [writeL]
  | j :: l, xs, z :: ys, h => by
    simp only [List.mem_cons, not_or] at h
    simp only [writeL]
    rw [writeL_set l _ ys h.2, List.set_comm _ _ (Ne.symm h.1)]
theorem writeL_comm {α : Type} : ∀ (l2 l1 : List Nat) (xs b1 b2 : List α), (∀ r ∈ l2, r ∉ l1) → writeL (writeL xs l1 b1) l2 b2 = writeL (writeL xs l2 b2) l1 b1
  | [], _, _, _, _, _ => by simp [writeL]
  | _ :: _, _, _, _, [], _ => by simp [writeL]
  | i :: l2, l1, xs, b1, y :: b2, h => by
    simp only [writeL]
    rw [writeL_set l1 _ _ (h i (by simp)), writeL_comm l2 l1 _ b1 b2 fun r hr => h r (by simp [hr])]

theorem subRows_congr {rows rows2 : Rows} {l : List Nat} (h : ∀ r ∈ l, getRow rows2 r = getRow rows r) : subRows rows2 l = subRows rows l := List.map_congr_left h

def modesOK (op : AOp) : Bool := match op with | .call _ ms _ xs => ms.length == xs.length | _ => true

theorem touch_lt (op : AOp) : touch op = 0 ∨ touch op = 1 ∨ touch op = 2 := by
  cases op
  case assign m x => cases m <;> simp [touch]
  case load m agg k a => cases m <;> simp [touch]
  case call g ms m xs => simp only [touch]; split <;> simp
  all_goals simp [touch]

theorem grows_touch {op : AOp} (h : grows op = true) : touch op = 1 ∨ touch op = 2 := by
  rcases touch_lt op with h0 | h0 | h0
  · exfalso
    unfold grows at h
    split at h <;> simp_all
  · exact .inl h0
  · exact .inr h0

theorem stepD_local {callF : CallF} {ks : List Nat} {b i : Nat} {x : AOper} {s s' : DSt} (hml : modesOK x.op = true) (h : stepD callF ks b i x s = some s') : ∃ e, s' = e.run i x.dst s ∧ Local callF ks b i x s e := by
  have h0 := h
  unfold stepD at h
  split at h
  · rename_i hw
    split at h
    · simp at h
    rename_i v rows' he
    simp only [Option.some.injEq] at h
    have hml' : ∀ g ms m xs, x.op = .call g ms m xs → ms.length = xs.length := fun g ms m xs hx => by
      rw [hx] at hml; simpa [modesOK] using hml
    by_cases hg : grows x.op = true
    · -- in a part of the rows
      unfold execD at he
      rw [if_pos hg] at he
      unfold execAt at he
      split at he
      · simp at he
      rename_i v0 back hx
      split at he
      case isFalse => simp at he
      rename_i hl
      simp only [Option.some.injEq, Prod.mk.injEq] at he
      obtain ⟨hv, hr⟩ := he
      rcases grows_touch hg with ht | ht
      · obtain ⟨t, hb⟩ := exec_pre ht hg hml' hx
        refine ⟨⟨some v, opIds s.1.vars s.1.ts x.op, slotsAt b ks i, t⟩, ?_, ?_⟩
        all_goals
          have hrow : ∀ rows2, subRows rows2 (opIds s.1.vars s.1.ts x.op) = subRows s.1.rows (opIds s.1.vars s.1.ts x.op) → writeBack rows2 (opIds s.1.vars s.1.ts x.op ++ slotsAt b ks i) back = writeL rows2 (slotsAt b ks i) t := fun rows2 h2 => by
            rw [writeBack_eq, hb, ← h2, writeL_append _ _ _ _ _ (by simp [subRows]), writeL_same]
        · rw [← h, ← hr, hrow _ rfl, put_eq]; rfl
        · refine ⟨by rw [h0, ← h, ← hr, hrow _ rfl, put_eq]; rfl, fun r hr => by simp [writes, hg, ht]; exact hr, fun hn => by simp at hn, fun s2 hs hrd => ?_⟩
          have hrd' : subRows s2.1.rows (opIds s.1.vars s.1.ts x.op) = subRows s.1.rows (opIds s.1.vars s.1.ts x.op) := subRows_congr fun r hr => hrd r (by simp [reads, ht]; exact hr)
          unfold stepD execD execAt
          rw [← hs.2, hw]
          simp only [hg, if_true]
          rw [← opIds_congr hs.1, hrd', exec_congr (vars' := s.1.vars.map (maskD (opIds s.1.vars s.1.ts x.op))) (ts' := s.1.ts.map (maskD (opIds s.1.vars s.1.ts x.op))) fun y hy => opd_mask_congr (hs.1 y hy).symm, hx]
          simp only
          rw [if_pos hl]
          simp only
          rw [hv, hrow _ hrd', put_eq]
          rfl
      · refine ⟨⟨some v, opIds s.1.vars s.1.ts x.op, opIds s.1.vars s.1.ts x.op ++ slotsAt b ks i, back⟩, ?_, ?_⟩
        · rw [← h, ← hr, writeBack_eq, put_eq]; rfl
        · refine ⟨by rw [h0, ← h, ← hr, writeBack_eq, put_eq]; rfl, fun r hr => by simpa [writes, hg, ht] using hr, fun hn => by simp at hn, fun s2 hs hrd => ?_⟩
          have hrd' : subRows s2.1.rows (opIds s.1.vars s.1.ts x.op) = subRows s.1.rows (opIds s.1.vars s.1.ts x.op) := subRows_congr fun r hr => hrd r (by simp [reads, ht]; exact hr)
          unfold stepD execD execAt
          rw [← hs.2, hw]
          simp only [hg, if_true]
          rw [← opIds_congr hs.1, hrd', exec_congr (vars' := s.1.vars.map (maskD (opIds s.1.vars s.1.ts x.op))) (ts' := s.1.ts.map (maskD (opIds s.1.vars s.1.ts x.op))) fun y hy => opd_mask_congr (hs.1 y hy).symm, hx]
          simp only
          rw [if_pos hl]
          simp only
          rw [hv, writeBack_eq, put_eq]
          rfl
    · unfold execD at he
      rw [if_neg hg] at he
      have hg' : grows x.op = false := by simpa using hg
      obtain ⟨h1, h2⟩ := exec_still hg' he
      subst h1
      refine ⟨⟨some v, opIds s.1.vars s.1.ts x.op, [], []⟩, ?_, ?_⟩
      · rw [← h, put_eq]; simp [Eff.run, writeL]
      · refine ⟨by rw [h0, ← h, put_eq]; simp [Eff.run, writeL], fun r hr => by simp at hr, fun hn => by simp at hn, fun s2 hs hrd => ?_⟩
        unfold stepD execD
        rw [← hs.2, hw]
        simp only
        rw [if_neg hg, exec_congr (vars' := s.1.vars) (ts' := s.1.ts) fun y hy => (hs.1 y hy).symm, h2 _ hrd]
        simp only
        rw [← opIds_congr hs.1, put_eq]
        simp [Eff.run, writeL]
  · rename_i hw
    simp only [Option.some.injEq] at h
    refine ⟨⟨none, [], [], []⟩, ?_, ?_⟩
    · rw [← h, passed_eq]; simp [Eff.run, writeL]
    · refine ⟨by rw [h0, ← h, passed_eq]; simp [Eff.run, writeL], fun r hr => by simp at hr, fun _ => ⟨rfl, rfl⟩, fun s2 hs _ => ?_⟩
      unfold stepD
      rw [← hs.2, hw]
      simp only
      rw [passed_eq]
      simp [Eff.run, writeL]
  · simp at h

/-! ### Operations that do not look at each other -/
def hits (dst : Option Nat) (i : Nat) : Opd → Bool
  | .v k => dst == some k
  | .t j => dst.isNone && j == i
  | .c _ => false
def blind (x : AOper) (dst : Option Nat) (i : Nat) : Bool :=
  (x.op.opds.all fun z => !hits dst i z) && (match x.guard with | some (g, _) => g != i | none => true)
def indep (j : Nat) (y : AOper) (i : Nat) (x : AOper) : Bool := blind x y.dst j && blind y x.dst i && (x.dst.isNone || x.dst != y.dst)

theorem getD_set_ne2 {l : List D} {i j : Nat} {d e : D} (h : i ≠ j) : (l.set i d).getD j e = l.getD j e := by
  simp [List.getD, h]

theorem blind_same {x : AOper} {dst : Option Nat} {i : Nat} (h : blind x dst i = true) (e : Eff) (s : DSt) : Same x (e.run i dst s) s := by
  simp only [blind, Bool.and_eq_true, List.all_eq_true] at h
  obtain ⟨h1, h2⟩ := h
  refine ⟨fun y hy => ?_, ?_⟩
  · have := h1 y hy
    cases y with
    | v k =>
      simp only [hits, opd, Eff.run] at this ⊢
      cases dst with
      | none => rfl
      | some d =>
        simp at this
        exact getD_set_ne2 this
    | t j =>
      simp only [hits, opd, Eff.run] at this ⊢
      cases dst with
      | some d => rfl
      | none =>
        simp at this
        exact getD_set_ne2 (Ne.symm this)
    | c d => rfl
  · cases hg : x.guard with
    | none => rfl
    | some gb =>
      obtain ⟨g, b⟩ := gb
      rw [hg] at h2
      simp only [bne_iff_ne, ne_eq] at h2
      simp only [wanted, Eff.run]
      cases dst with
      | some d => rfl
      | none => simp only [setT]; rw [getD_set_ne2 (Ne.symm h2)]

theorem Same.symm {x : AOper} {s s2 : DSt} (h : Same x s s2) : Same x s2 s := ⟨fun y hy => (h.1 y hy).symm, h.2.symm⟩

theorem getRow_writeL {rows back : Rows} {l : List Nat} {r : Nat} (h : r ∉ l) : getRow (writeL rows l back) r = getRow rows r := by
  simp only [getRow, List.getD]; rw [writeL_out _ _ _ h]

theorem run_comm {i j : Nat} {di dj : Option Nat} {ei ej : Eff} {s : DSt} (hij : i ≠ j) (hd : di = none ∨ di ≠ dj) (hL : ∀ r ∈ ei.Lw, r ∉ ej.Lw) : ej.run j dj (ei.run i di s) = ei.run i di (ej.run j dj s) := by
  have e1 : setV dj (ej.v.getD .undef) (setV di (ei.v.getD .undef) s.1.vars) = setV di (ei.v.getD .undef) (setV dj (ej.v.getD .undef) s.1.vars) := by
    cases di with
    | none => rfl
    | some d => cases dj with
      | none => rfl
      | some e => exact List.set_comm _ _ (fun h => by subst h; simp at hd)
  have e2 : setT dj j (ej.v.getD (.tup [])) (setT di i (ei.v.getD (.tup [])) s.1.ts) = setT di i (ei.v.getD (.tup [])) (setT dj j (ej.v.getD (.tup [])) s.1.ts) := by
    cases di with
    | some d => rfl
    | none => cases dj with
      | some e => rfl
      | none => exact List.set_comm _ _ hij
  have e3 : writeL (writeL s.1.rows ei.Lw ei.back) ej.Lw ej.back = writeL (writeL s.1.rows ej.Lw ej.back) ei.Lw ei.back := (writeL_comm _ _ _ _ _ hL).symm
  have e4 : (match ej.v with | none => (match ei.v with | none => s.2 | some _ => s.2.set i ei.fp) | some _ => (match ei.v with | none => s.2 | some _ => s.2.set i ei.fp).set j ej.fp) = (match ei.v with | none => (match ej.v with | none => s.2 | some _ => s.2.set j ej.fp) | some _ => (match ej.v with | none => s.2 | some _ => s.2.set j ej.fp).set i ei.fp) := by
    cases ei.v with
    | none => rfl
    | some _ => cases ej.v with
      | none => rfl
      | some _ => exact List.set_comm _ _ hij
  simp only [Eff.run, e1, e2, e3]
  rw [Prod.mk.injEq]
  exact ⟨rfl, e4⟩

theorem commute {callF : CallF} {ks : List Nat} {b i j : Nat} {x y : AOper} {s : DSt} {ei ej : Eff} (hij : i ≠ j) (hind : indep j y i x = true) (hj : Local callF ks b j y s ej) (hi : Local callF ks b i x (ej.run j y.dst s) ei)
    (a1 : ∀ r ∈ ej.Lw, r ∉ reads x.op ei.fp) (a2 : ∀ r ∈ ei.Lw, r ∉ ej.Lw) (a3 : ∀ r ∈ ei.Lw, r ∉ reads y.op ej.fp) :
    stepD callF ks b i x s = some (ei.run i x.dst s) ∧ stepD callF ks b j y (ei.run i x.dst s) = some (ei.run i x.dst (ej.run j y.dst s)) := by
  simp only [indep, Bool.and_eq_true] at hind
  obtain ⟨⟨h1, h2⟩, h3⟩ := hind
  have hd : x.dst = none ∨ x.dst ≠ y.dst := by
    simp only [Bool.or_eq_true, Option.isNone_iff_eq_none, bne_iff_ne, ne_eq] at h3
    exact h3
  refine ⟨hi.loc s (blind_same h1 ej s) fun r hr => ?_, ?_⟩
  · exact (getRow_writeL fun h => a1 r h hr).symm
  · rw [← run_comm hij hd a2]
    exact hj.loc _ (blind_same h2 ei s).symm fun r hr => getRow_writeL fun h => a3 r h hr

def runL (callF : CallF) (ks : List Nat) (b : Nat) : List (Nat × AOper) → DSt → Option DSt
  | [], s => some s
  | (i, x) :: r, s => match stepD callF ks b i x s with
    | none => none
    | some s => runL callF ks b r s

def number : Nat → List AOper → List (Nat × AOper)
  | _, [] => []
  | i, x :: xs => (i, x) :: number (i + 1) xs
theorem runD_eq {callF : CallF} {ks : List Nat} {b : Nat} : ∀ {xs : List AOper} {i : Nat} {s : DSt}, runD callF ks b i xs s = runL callF ks b (number i xs) s
  | [], _, _ => rfl
  | x :: xs, i, s => by
    simp only [runD, number, runL]
    cases stepD callF ks b i x s with
    | none => rfl
    | some s => exact runD_eq

theorem run_fp {e : Eff} {i j : Nat} {dst : Option Nat} {s : DSt} (h : i ≠ j) : (e.run i dst s).2.getD j [] = s.2.getD j [] := by
  unfold Eff.run
  cases e.v with
  | none => rfl
  | some _ => simp [List.getD, h]
theorem run_fpl {e : Eff} {i : Nat} {dst : Option Nat} {s : DSt} : (e.run i dst s).2.length = s.2.length := by
  unfold Eff.run
  cases e.v with
  | none => rfl
  | some _ => simp
theorem run_fpi {e : Eff} {i : Nat} {dst : Option Nat} {s : DSt} {v : D} (hv : e.v = some v) (hi : i < s.2.length) : (e.run i dst s).2.getD i [] = e.fp := by
  unfold Eff.run
  rw [hv]
  simp [List.getD, hi]

theorem runL_fp {callF : CallF} {ks : List Nat} {b j : Nat} : ∀ {R : List (Nat × AOper)} {s fin : DSt}, (∀ p ∈ R, modesOK p.2.op = true) → runL callF ks b R s = some fin → j ∉ R.map (·.1) → fin.2.getD j [] = s.2.getD j []
  | [], s, fin, _, h, _ => by simp only [runL, Option.some.injEq] at h; rw [h]
  | (i, x) :: R, s, fin, hm, h, hj => by
    simp only [runL] at h
    split at h
    · simp at h
    rename_i s1 h1
    obtain ⟨e, rfl, _⟩ := stepD_local (hm (i, x) (by simp)) h1
    simp only [List.map_cons, List.mem_cons, not_or] at hj
    rw [runL_fp (fun p hp => hm p (by simp [hp])) h hj.2, run_fp (Ne.symm hj.1)]

/-- What the final footprints must say of two operations that may be exchanged. -/
def Apart (fin : DSt) (ks : List Nat) (b j : Nat) (y : AOper) (i : Nat) (x : AOper) : Prop :=
  let wy := writes y.op (fin.2.getD j []) (slotsAt b ks j)
  let wx := writes x.op (fin.2.getD i []) (slotsAt b ks i)
  (∀ r ∈ wy, r ∉ reads x.op (fin.2.getD i []) ∧ r ∉ wx) ∧ ∀ r ∈ wx, r ∉ reads y.op (fin.2.getD j [])

theorem bubble {callF : CallF} {ks : List Nat} {b : Nat} {i : Nat} {x : AOper} {R2 : List (Nat × AOper)} {fin : DSt} : ∀ {R1 : List (Nat × AOper)} {s : DSt}, (∀ p ∈ R1 ++ (i, x) :: R2, modesOK p.2.op = true) → runL callF ks b (R1 ++ (i, x) :: R2) s = some fin →
    ((R1 ++ (i, x) :: R2).map (·.1)).Nodup → (∀ p ∈ R1 ++ (i, x) :: R2, p.1 < s.2.length) → (∀ p ∈ R1, indep p.1 p.2 i x = true ∧ Apart fin ks b p.1 p.2 i x) → ∃ s', stepD callF ks b i x s = some s' ∧ runL callF ks b (R1 ++ R2) s' = some fin
  | [], s, _, h, _, _, _ => by
    simp only [List.nil_append, runL] at h
    split at h
    · simp at h
    rename_i s1 h1
    exact ⟨s1, h1, h⟩
  | (j, y) :: R1, s, hm, h, hn, hlt, hR => by
    simp only [List.cons_append, runL] at h
    split at h
    · simp at h
    rename_i s1 h1
    obtain ⟨ej, rfl, hlj⟩ := stepD_local (hm (j, y) (by simp)) h1
    simp only [List.cons_append, List.map_cons, List.nodup_cons] at hn
    obtain ⟨s1', h2, h3⟩ := bubble (fun p hp => hm p (List.mem_cons_of_mem _ hp)) h hn.2 (fun p hp => by rw [run_fpl]; exact hlt p (List.mem_cons_of_mem _ hp)) (fun p hp => hR p (by simp [hp]))
    obtain ⟨ei, rfl, hli⟩ := stepD_local (hm (i, x) (by simp)) h2
    obtain ⟨hind, hap⟩ := hR (j, y) (by simp)
    have hij : i ≠ j := fun e => hn.1 (by rw [← e]; simp)
    have hj0 : j < s.2.length := hlt (j, y) (by simp)
    have hi0 : i < s.2.length := hlt (i, x) (by simp)
    have hmem : ∀ p ∈ R1 ++ R2, modesOK p.2.op = true := fun p hp => hm p (List.mem_cons_of_mem _ (by
      rcases List.mem_append.1 hp with hp | hp
      · exact List.mem_append_left _ hp
      · exact List.mem_append_right _ (List.mem_cons_of_mem _ hp)))
    have hinot : i ∉ (R1 ++ R2).map (·.1) := by
      have := hn.2
      rw [List.map_append, List.map_cons, List.nodup_append] at this
      obtain ⟨_, n2, n3⟩ := this
      rw [List.map_append, List.mem_append, not_or]
      exact ⟨fun hi => n3 i hi i (by simp) rfl, (List.nodup_cons.1 n2).1⟩
    have hjnot : j ∉ (R1 ++ R2).map (·.1) := fun hj => hn.1 (by rw [List.map_append, List.mem_append] at hj ⊢; rcases hj with hj | hj; exact .inl hj; exact .inr (by simp only [List.map_cons, List.mem_cons]; exact .inr hj))
    have fi : ∀ v, ei.v = some v → fin.2.getD i [] = ei.fp := fun v hv => by
      rw [runL_fp hmem h3 hinot, run_fpi hv (by rw [run_fpl]; exact hi0)]
    have fj : ∀ v, ej.v = some v → fin.2.getD j [] = ej.fp := fun v hv => by
      rw [runL_fp hmem h3 hjnot, run_fp hij, run_fpi hv hj0]
    have rnil : ∀ op, reads op [] = [] := fun op => by unfold reads; split <;> rfl
    obtain ⟨ap1, ap2⟩ := hap
    have conds : (∀ r ∈ ej.Lw, r ∉ reads x.op ei.fp) ∧ (∀ r ∈ ei.Lw, r ∉ ej.Lw) ∧ (∀ r ∈ ei.Lw, r ∉ reads y.op ej.fp) := by
      cases hvi : ei.v with
      | none =>
        obtain ⟨n1, n2⟩ := hli.no hvi
        rw [n1, n2, rnil]
        exact ⟨fun _ _ h => by simp at h, fun _ h => by simp at h, fun _ h => by simp at h⟩
      | some vi => cases hvj : ej.v with
        | none =>
          obtain ⟨n1, n2⟩ := hlj.no hvj
          rw [n1, n2, rnil]
          exact ⟨fun _ h => by simp at h, fun _ _ h => by simp at h, fun _ _ h => by simp at h⟩
        | some vj =>
          rw [fi vi hvi, fj vj hvj] at ap1 ap2
          exact ⟨fun r hr => (ap1 r (hlj.wr r hr)).1, fun r hr h => (ap1 r (hlj.wr r h)).2 (hli.wr r hr), fun r hr => ap2 r (hli.wr r hr)⟩
    obtain ⟨c1, c2⟩ := commute hij hind hlj hli conds.1 conds.2.1 conds.2.2
    refine ⟨_, c1, ?_⟩
    simp only [List.cons_append, runL]
    rw [c2]
    exact h3
end Av
namespace Av
open Go

theorem LocLe.on2 {A B : Loc} {S T : Nat → Prop} (h : LocLe A B) (hS : ∀ r, A.ok r → S r → T r) : LocLe (A.on S) (B.on T) :=
  ⟨fun r hr => ⟨h.1 r hr.1, hS r hr.1 hr.2⟩, fun r hr => h.2.1 r hr.1, fun r p n l hr hn hl => h.2.2 r p n l hr.1 hn hl⟩

theorem idsInL_iff {S : Nat → Prop} : ∀ {l : List D}, idsInL S l ↔ ∀ d ∈ l, idsIn S d
  | [] => by simp [idsInL]
  | d :: l => by
    unfold idsInL
    rw [idsInL_iff (l := l)]
    simp

section
variable {P : Program} {fm : Nat → Nat} {sl : List Nat} {tms : List (Option Nat)}

theorem chkL_mem : ∀ {xs : List Opd} {os : List Operand}, chkL fm sl tms xs os = true → ∀ y ∈ xs, ∃ z, chkO fm sl tms y z = true
  | [], _, _, y, hy => by simp at hy
  | x :: xs, [], h, _, _ => by simp [chkL] at h
  | x :: xs, o :: os, h, y, hy => by
    simp only [chkL, Bool.and_eq_true] at h
    rcases List.mem_cons.1 hy with e | e
    · subst e; exact ⟨o, h.1⟩
    · exact chkL_mem h.2 y e
theorem chkP_mem {t : TypeId} : ∀ {ps : List (Nat × Nat × Opd)} {qs : List (Nat × Operand)}, chkP P fm sl tms t ps qs = true → ∀ p ∈ ps, ∃ z, chkO fm sl tms p.2.2 z = true
  | [], _, _, y, hy => by simp at hy
  | x :: xs, [], h, _, _ => by simp [chkP] at h
  | x :: xs, o :: os, h, y, hy => by
    simp only [chkP, Bool.and_eq_true] at h
    rcases List.mem_cons.1 hy with e | e
    · subst e; exact ⟨_, h.1.2⟩
    · exact chkP_mem h.2 y e
theorem chkS_mem {k : Nat} : ∀ {ps : List (Nat × Opd)} {qs : List (Nat × Operand)}, chkS fm sl tms k ps qs = true → ∀ p ∈ ps, ∃ z, chkO fm sl tms p.2 z = true
  | [], _, _, y, hy => by simp at hy
  | x :: xs, [], h, _, _ => by simp [chkS] at h
  | x :: xs, o :: os, h, y, hy => by
    simp only [chkS, Bool.and_eq_true] at h
    rcases List.mem_cons.1 hy with e | e
    · subst e; exact ⟨_, h.1.2⟩
    · exact chkS_mem h.2 y e
theorem chkM_mem {x : Option Opd} {z : Option Operand} (h : chkM fm sl tms x z = true) : ∀ y ∈ x.toList, ∃ z, chkO fm sl tms y z = true := by
  cases x <;> cases z <;> simp [chkM] at h ⊢
  exact ⟨_, h⟩

theorem chk_opds {x : AOp} {o : Op} (hc : chkOp P fm sl tms x o = true) : ∀ y ∈ x.opds, ∃ z, chkO fm sl tms y z = true := by
  have one : ∀ {x : Opd} {z : Operand}, chkO fm sl tms x z = true → ∀ y ∈ [x], ∃ z, chkO fm sl tms y z = true := fun h y hy => by
    simp only [List.mem_singleton] at hy; subst hy; exact ⟨_, h⟩
  have two : ∀ {x x2 : Opd} {z z2 : Operand}, chkO fm sl tms x z = true → chkO fm sl tms x2 z2 = true → ∀ y ∈ [x, x2], ∃ z, chkO fm sl tms y z = true := fun h h2 y hy => by
    simp only [List.mem_cons, List.not_mem_nil, or_false] at hy
    rcases hy with e | e <;> subst e
    · exact ⟨_, h⟩
    · exact ⟨_, h2⟩
  cases x <;> simp only [chkOp] at hc <;> simp only [AOp.opds]
  case move x => split at hc; exact one hc; simp at hc
  case assign m x => split at hc; exact one hc; exact one hc; simp at hc
  case pick c a b =>
    split at hc
    · simp only [Bool.and_eq_true] at hc
      intro y hy
      rcases List.mem_cons.1 hy with e | e
      · subst e; exact ⟨_, hc.1.1⟩
      · exact two hc.1.2 hc.2 y e
    · simp at hc
  case alloc z => intro y hy; simp at hy
  case box x => split at hc; exact one hc; simp at hc
  case build z ps =>
    split at hc
    · simp only [Bool.and_eq_true] at hc
      intro y hy
      obtain ⟨p, hp, rfl⟩ := List.mem_map.1 hy
      exact chkP_mem hc.2 p hp
    · simp at hc
  case buildSlice m z n ps =>
    split at hc
    · simp only [Bool.and_eq_true] at hc
      obtain ⟨_, hc⟩ := hc
      split at hc
      · simp only [Bool.and_eq_true] at hc
        intro y hy
        obtain ⟨p, hp, rfl⟩ := List.mem_map.1 hy
        exact chkS_mem hc.2 p hp
      · simp at hc
    · simp at hc
  case load m agg k a =>
    split at hc
    · simp only [Bool.and_eq_true] at hc; exact one hc.1.1.1
    · simp at hc
  case store s k a x =>
    split at hc
    · simp only [Bool.and_eq_true] at hc; exact two hc.1.1.1 hc.1.1.2
    · simp at hc
  case bin op x y =>
    split at hc
    · simp only [Bool.and_eq_true] at hc; exact two hc.1.2 hc.2
    · simp at hc
  case eqb n x y =>
    split at hc
    · simp only [Bool.and_eq_true] at hc; exact two hc.1.2 hc.2
    · simp at hc
  case un op x =>
    split at hc
    · simp only [Bool.and_eq_true] at hc; exact one hc.2
    · simp at hc
  case conv k x =>
    split at hc
    · simp only [Bool.and_eq_true] at hc; exact one hc.2
    · simp at hc
  case toStr x =>
    split at hc
    · split at hc
      · simp only [Bool.and_eq_true] at hc; exact one hc.2
      · simp at hc
    · simp at hc
  case makeSlice m z b l c =>
    split at hc
    · split at hc
      · simp only [Bool.and_eq_true] at hc; exact two hc.1.2 hc.2
      · simp at hc
    · simp at hc
  case slice k x lo hi =>
    split at hc
    · simp only [Bool.and_eq_true] at hc
      intro y hy
      rcases List.mem_cons.1 hy with e | e
      · subst e; exact ⟨_, hc.1.1.2⟩
      · rcases List.mem_append.1 e with e | e
        · exact chkM_mem hc.1.2 y e
        · exact chkM_mem hc.2 y e
    · simp at hc
  case fieldAddr o x =>
    split at hc
    · split at hc
      · simp only [Bool.and_eq_true] at hc; exact one hc.2
      · simp at hc
    · simp at hc
  case field a o k x =>
    split at hc
    · split at hc
      · simp only [Bool.and_eq_true] at hc; exact one hc.2
      · simp at hc
    · simp at hc
  case indexAddr k x i =>
    split at hc
    · split at hc
      · simp only [Bool.and_eq_true] at hc; exact two hc.1.2 hc.2
      · simp at hc
    · simp at hc
  case index x i =>
    split at hc
    · simp only [Bool.and_eq_true] at hc; exact two hc.1.2 hc.2
    · simp at hc
  case extract i x =>
    split at hc
    · simp only [Bool.and_eq_true] at hc; exact one hc.2
    · simp at hc
  case len s x =>
    split at hc
    · simp only [Bool.and_eq_true] at hc; exact one hc.2
    · simp at hc
  case append s k b t x y =>
    split at hc
    · simp only [Bool.and_eq_true] at hc; exact two hc.1.2 hc.2
    · simp at hc
  case call g ms m xs =>
    split at hc
    · simp only [Bool.and_eq_true] at hc; exact chkL_mem hc.2
    · simp at hc
  all_goals simp at hc

theorem layAt_mem : ∀ {vs cells : List D} {off : Nat} {d : D}, d ∈ layAt cells off vs → d ∈ cells ∨ d ∈ vs
  | [], cells, off, d, h => .inl (by simpa [layAt] using h)
  | v :: vs, cells, off, d, h => by
    simp only [layAt] at h
    rcases layAt_mem h with h | h
    · rcases List.mem_or_eq_of_mem_set h with h | h
      · exact .inl h
      · exact .inr (by simp [h])
    · exact .inr (by simp [h])
theorem fill_mem : ∀ {parts : List (Nat × Nat × List D)} {cells cs : List D}, fill cells parts = some cs → ∀ d ∈ cs, d ∈ cells ∨ ∃ p ∈ parts, d ∈ p.2.2
  | [], cells, cs, h, d, hd => by simp only [fill, Option.some.injEq] at h; subst h; exact .inl hd
  | (o, k, v) :: rest, cells, cs, h, d, hd => by
    simp only [fill] at h
    split at h
    case isFalse => simp at h
    rcases fill_mem h d hd with h1 | ⟨p, hp, h1⟩
    · rcases layAt_mem h1 with h1 | h1
      · exact .inl h1
      · exact .inr ⟨(o, k, v), by simp, h1⟩
    · exact .inr ⟨p, by simp [hp], h1⟩

theorem idsIn_comps {S : Nat → Prop} {d : D} (h : idsIn S d) : idsInL S (comps d) := by
  cases d <;> simp only [comps] <;> first | (unfold idsIn at h; exact h) | (unfold idsInL idsInL; exact ⟨h, trivial⟩)

theorem no_ids {w : World} {F : FZ} {S : Nat → Prop} {cs : List D} {vs : List Value} {X : Cnt} (h : RelL w F fm L0 cs vs X) : idsInL S cs := h.ok.mono fun _ h => h.elim

theorem idsIn_borrow {S : Nat → Prop} {r i : Nat} {path : List Nat} {ver : Nat} {d : D} (hr : S r) (h : idsIn S d) : idsIn S (borrow r path ver i d) := by
  unfold borrow
  split
  · unfold idsIn; exact hr
  · exact h
theorem idsIn_borrowL {S : Nat → Prop} {r : Nat} {path : List Nat} {ver : Nat} (hr : S r) : ∀ {ds : List D} {i : Nat}, idsInL S ds → idsInL S (borrowL r path ver i ds)
  | [], _, _ => by simp [borrowL, idsInL]
  | d :: ds, i, h => by
    unfold idsInL at h
    unfold borrowL idsInL
    exact ⟨idsIn_borrow hr h.1, idsIn_borrowL hr h.2⟩
theorem idsInL_cut {S : Nat → Prop} {cs : List D} {off k : Nat} (h : idsInL S cs) : idsInL S (cut cs off k) :=
  idsInL_iff.2 fun d hd => idsInL_iff.1 h d (List.mem_of_mem_drop (List.mem_of_mem_take hd))
theorem idsInL_get {S : Nat → Prop} {cs : List D} {i : Nat} {d : D} (h : idsInL S cs) (hd : cs[i]? = some d) : idsIn S d := idsInL_iff.1 h d (List.mem_of_getElem? hd)

/-- An operation that makes no rows speaks of its operands' rows alone. -/
theorem exec_ids {callF : CallF} {S : Nat → Prop} {w : World} {F : FZ} {rows rows' : Rows} {ms : Ms} {X : Cnt} {vars ts : List D} {x : AOp} {o : Op} {v : D} (hc : chkOp P fm sl tms x o = true) (hR : RowsRel w F fm rows ms X) (hg : grows x = false)
    (hops : ∀ y ∈ x.opds, ∃ z, Rel w F fm ((mkLoc w rows ms).on S) (opd vars ts y) z (fun _ => 0)) (h : exec callF vars ts rows x = some (v, rows')) : idsIn S v := by
  have hids : ∀ y ∈ x.opds, idsIn S (opd vars ts y) := fun y hy => by
    obtain ⟨z, hz⟩ := hops y hy
    exact hz.ok.mono fun r hr => hr.2
  cases x
  case move x =>
    simp only [exec, Option.some.injEq, Prod.mk.injEq] at h
    rw [← h.1]; exact hids x (by simp [AOp.opds])
  case assign m x =>
    cases m <;> simp [grows, touch] at hg
    simp only [exec, Option.some.injEq, Prod.mk.injEq] at h
    rw [← h.1]; exact hids x (by simp [AOp.opds])
  case pick c a b =>
    simp only [exec] at h
    split at h
    · simp only [Option.some.injEq, Prod.mk.injEq] at h
      rw [← h.1]
      split
      · exact hids a (by simp [AOp.opds])
      · exact hids b (by simp [AOp.opds])
    · simp at h
  case build z ps =>
    simp only [exec] at h
    split at h
    · obtain ⟨cs, h1, h2⟩ := map_some h
      simp only [Prod.mk.injEq] at h2
      rw [← h2.1]
      unfold idsIn
      refine idsInL_iff.2 fun d hd => ?_
      rcases fill_mem h1 d hd with h3 | ⟨p, hp, h3⟩
      · simp only [chkOp] at hc
        split at hc
        · simp only [Bool.and_eq_true] at hc
          obtain ⟨i, zv, _, _, hcz, _⟩ := zeroT_ok hc.1.1
          exact idsInL_iff.1 (no_ids (constL_rel (w := w) (F := F) (L := L0) hcz)) d h3
        · simp at hc
      · obtain ⟨q, hq, rfl⟩ := List.mem_map.1 hp
        exact idsInL_iff.1 (idsIn_comps (hids q.2.2 (List.mem_map.2 ⟨q, hq, rfl⟩))) d h3
    · simp at h
  case load m agg k a =>
    cases m <;> simp [grows, touch] at hg
    simp only [exec] at h
    obtain ⟨u, h1, h2⟩ := map_some h
    simp only [Prod.mk.injEq] at h2
    rw [← h2.1]
    have hk : 0 < k := by
      simp only [chkOp] at hc
      split at hc
      · simp only [Bool.and_eq_true, decide_eq_true_eq] at hc; exact hc.2
      · simp at hc
    have ha := hids a (by simp [AOp.opds])
    obtain ⟨z, hz⟩ := hops a (by simp [AOp.opds])
    cases hd : opd vars ts a with
    | faddr cells off =>
      rw [hd] at h1 hz
      unfold Rel at hz
      obtain ⟨_, b, base, vs, _, _, _, hrl⟩ := hz
      have hn := no_ids (S := S) hrl
      simp only [loadV] at h1
      split at h1
      · split at h1
        · simp only [Option.some.injEq] at h1
          rw [← h1]; unfold idsIn; exact idsInL_cut hn
        · split at h1
          · exact idsInL_get hn h1
          · simp at h1
      · simp at h1
    | addr r p ver off =>
      rw [hd] at h1 ha
      unfold idsIn at ha
      simp only [loadV] at h1
      split at h1
      · simp at h1
      rename_i row cells hcl
      split at h1
      case isFalse => simp at h1
      rename_i hl
      have hne : cells ≠ [] := fun e => by subst e; simp at hl; omega
      obtain ⟨_, _, vs, Xc, _, _, _, hrl, _⟩ := cells_own hcl hne hR
      have hn := no_ids (S := S) hrl
      split at h1
      · simp only [Option.some.injEq] at h1
        rw [← h1]; unfold idsIn; exact idsIn_borrowL ha (idsInL_cut hn)
      · split at h1
        · obtain ⟨d, h3, rfl⟩ := map_some h1
          exact idsIn_borrow ha (idsInL_get hn h3)
        · simp at h1
    | _ => rw [hd] at h1; simp [loadV] at h1
  case bin op x y =>
    simp only [exec] at h
    obtain ⟨u, h1, h2⟩ := map_some h
    simp only [Prod.mk.injEq] at h2
    rw [← h2.1]
    obtain ⟨zx, hx⟩ := hops x (by simp [AOp.opds])
    obtain ⟨zy, hy⟩ := hops y (by simp [AOp.opds])
    obtain ⟨z, _, hz⟩ := bin_ok (P := P) (t := 0) (p := .func 0) (q := .func 0) h1 hx hy
    exact hz.ok.mono fun r hr => hr.2
  case un op x =>
    simp only [exec] at h
    obtain ⟨u, h1, h2⟩ := map_some h
    simp only [Prod.mk.injEq] at h2
    rw [← h2.1]
    obtain ⟨zx, hx⟩ := hops x (by simp [AOp.opds])
    obtain ⟨z, _, hz⟩ := un_ok (P := P) h1 hx
    exact hz.ok.mono fun r hr => hr.2
  case eqb n x y =>
    simp only [exec] at h
    split at h
    · simp only [Option.some.injEq, Prod.mk.injEq] at h
      rw [← h.1]; unfold idsIn; trivial
    · simp at h
  case conv k x =>
    simp only [exec] at h
    split at h
    · simp only [Option.some.injEq, Prod.mk.injEq] at h
      rw [← h.1]; unfold idsIn; trivial
    · simp at h
  case toStr x =>
    simp only [exec] at h
    obtain ⟨u, h1, h2⟩ := map_some h
    simp only [Prod.mk.injEq] at h2
    rw [← h2.1]; unfold idsIn; trivial
  case slice k x lo hi =>
    simp only [exec] at h
    obtain ⟨u, h1, h2⟩ := map_some h
    simp only [Prod.mk.injEq] at h2
    rw [← h2.1]
    have hx := hids x (by simp [AOp.opds])
    generalize opd vars ts x = d at h1 hx
    unfold sliceV at h1
    split at h1
    · split at h1
      · obtain ⟨lh, _, rfl⟩ := map_some h1; unfold idsIn; trivial
      · simp at h1
    · split at h1
      · obtain ⟨lh, _, rfl⟩ := map_some h1; unfold idsIn; trivial
      · simp at h1
    · split at h1
      · obtain ⟨lh, _, rfl⟩ := map_some h1; unfold idsIn at hx ⊢; exact hx
      · simp at h1
    · simp at h1
  case fieldAddr off x =>
    have hx := hids x (by simp [AOp.opds])
    simp only [exec] at h
    split at h
    · rename_i hd
      rw [hd] at hx
      simp only [Option.some.injEq, Prod.mk.injEq] at h
      rw [← h.1]; unfold idsIn at hx ⊢; exact hx
    · simp only [Option.some.injEq, Prod.mk.injEq] at h
      rw [← h.1]; unfold idsIn; trivial
    · simp at h
  case field agg off k x =>
    have hx := hids x (by simp [AOp.opds])
    simp only [exec] at h
    split at h
    · rename_i cs hd
      rw [hd] at hx
      unfold idsIn at hx
      split at h
      · split at h
        · simp only [Option.some.injEq, Prod.mk.injEq] at h
          rw [← h.1]; unfold idsIn; exact idsInL_cut hx
        · obtain ⟨u, h1, h2⟩ := map_some h
          simp only [Prod.mk.injEq] at h2
          rw [← h2.1]; exact idsInL_get hx h1
      · simp at h
    · simp at h
  case indexAddr k x i =>
    have hx := hids x (by simp [AOp.opds])
    simp only [exec] at h
    obtain ⟨u, h1, h2⟩ := map_some h
    simp only [Prod.mk.injEq] at h2
    rw [← h2.1]
    generalize opd vars ts x = d at h1 hx
    unfold indexAddrV at h1
    split at h1
    · split at h1
      · split at h1
        · simp only [Option.some.injEq] at h1; rw [← h1]; unfold idsIn; trivial
        · simp at h1
      · split at h1
        · simp only [Option.some.injEq] at h1; rw [← h1]; unfold idsIn at hx ⊢; exact hx
        · simp at h1
      · simp at h1
    · simp at h1
  case index x i =>
    simp only [exec] at h
    split at h
    · split at h
      · obtain ⟨u, h1, h2⟩ := map_some h
        simp only [Prod.mk.injEq] at h2
        rw [← h2.1]; unfold idsIn; trivial
      · simp at h
    · simp at h
  case extract i x =>
    have hx := hids x (by simp [AOp.opds])
    simp only [exec] at h
    split at h
    · rename_i vs hd
      rw [hd] at hx
      unfold idsIn at hx
      obtain ⟨u, h1, h2⟩ := map_some h
      simp only [Prod.mk.injEq] at h2
      rw [← h2.1]; exact idsInL_get hx h1
    · simp at h
  case len s x =>
    simp only [exec] at h
    obtain ⟨u, h1, h2⟩ := map_some h
    simp only [Prod.mk.injEq] at h2
    rw [← h2.1]
    generalize opd vars ts x = d at h1
    unfold lenV at h1
    split at h1
    · split at h1
      · simp only [Option.some.injEq] at h1; rw [← h1]; unfold idsIn; trivial
      · simp at h1
    · split at h1
      · simp at h1
      · simp only [Option.some.injEq] at h1; rw [← h1]; unfold idsIn; trivial
    · split at h1
      · simp at h1
      · simp only [Option.some.injEq] at h1; rw [← h1]; unfold idsIn; trivial
    · simp at h1
  case call g ms m xs =>
    simp only [grows, touch] at hg
    split at hg <;> simp at hg
  all_goals first | (simp [grows, touch] at hg; done) | (simp [chkOp] at hc; done)
end
end Av
namespace Av
open Go

def okS (ks : List Nat) (b : Nat) (R : List (Nat × AOper)) (r : Nat) : Prop := ∀ p ∈ R, r ∉ slotsAt b ks p.1

def DLive (fm : Nat → Nat) (sl : List Nat) (N : Nat) (E : Entry) (ks : List Nat) (b : Nat) (R : List (Nat × AOper)) (st : St) (tms : List (Option Nat)) (a : Act) (w : World) : Prop :=
  ∃ F ms X, RowsRel w F fm st.rows ms X ∧ (∀ b, X b ≤ 1) ∧ FOK w F ∧ Fr w F fm ((mkLoc w st.rows ms).on (okS ks b R)) sl tms st.vars st.ts a ∧ Ext E.w E.F E.L E.X w F ((mkLoc w st.rows ms).on (okS ks b R)) X ∧
    N ≤ a.tmps.size ∧ a.defers = [] ∧ (∀ r, E.L.ok r ↔ r < st.base) ∧ ∀ p ∈ R, ∀ r ∈ slotsAt b ks p.1, st.rows[r]? = some none

theorem writeL_take {α : Type} : ∀ (l : List Nat) (xs ys : List α), writeL xs l ys = writeL xs (l.take ys.length) ys
  | [], xs, ys => by simp [writeL]
  | i :: l, xs, [] => by simp [writeL]
  | i :: l, xs, y :: ys => by
    simp only [writeL, List.length_cons, List.take_succ_cons]
    exact writeL_take l _ ys

section
variable {P : Program} {fm : Nat → Nat} {sl : List Nat} {tms : List (Option Nat)} {N : Nat}

theorem put_live {w : World} {F : FZ} {L : Loc} (hS : Slots sl tms N) {st : St} {a : Act} {x : AOper} {o : Oper} {i : Nat} {v : D} {u : Value} {rows' : Rows} (hc : chkOper P fm sl tms i x o = true) (hN : N ≤ a.tmps.size) (h : Fr w F fm L sl tms st.vars st.ts a) (hv : Rel w F fm L v u (fun _ => 0)) :
    Fr w F fm L sl tms (put i x.dst v rows' st).vars (put i x.dst v rows' st).ts (a.put o.dst u) := by
  simp only [chkOper, Bool.and_eq_true] at hc
  obtain ⟨_, hdst⟩ := hc
  cases hx : x.dst with
  | none =>
    rw [hx] at hdst
    simp only [beq_iff_eq] at hdst
    exact h.put_t hS hN hdst hv
  | some k =>
    rw [hx] at hdst
    dsimp only at hdst
    split at hdst
    case h_2 => simp at hdst
    rename_i d ho
    simp only [beq_iff_eq] at hdst
    rw [ho]
    exact h.put_v hS hN hdst hv
theorem passed_live {w : World} {F : FZ} {L : Loc} (hS : Slots sl tms N) {st : St} {a : Act} {x : AOper} {o : Oper} {i : Nat} (hc : chkOper P fm sl tms i x o = true) (hN : N ≤ a.tmps.size) (h : Fr w F fm L sl tms st.vars st.ts a) :
    Fr w F fm L sl tms (passed i x.dst st).vars (passed i x.dst st).ts (a.put o.dst undef) := by
  simp only [chkOper, Bool.and_eq_true] at hc
  obtain ⟨_, hdst⟩ := hc
  cases hx : x.dst with
  | none =>
    rw [hx] at hdst
    simp only [beq_iff_eq] at hdst
    exact h.put_t hS hN hdst (by unfold Rel; exact ⟨[], rfl, RelL.nil⟩)
  | some k =>
    rw [hx] at hdst
    dsimp only at hdst
    split at hdst
    case h_2 => simp at hdst
    rename_i d ho
    simp only [beq_iff_eq] at hdst
    rw [ho]
    exact h.put_v hS hN hdst Rel.undef0

theorem put_rows {i : Nat} {dst : Option Nat} {v : D} {rows : Rows} {st : St} : (put i dst v rows st).rows = rows ∧ (put i dst v rows st).base = st.base := by cases dst <;> exact ⟨rfl, rfl⟩
theorem passed_rows {i : Nat} {dst : Option Nat} {st : St} : (passed i dst st).rows = st.rows ∧ (passed i dst st).base = st.base := by cases dst <;> exact ⟨rfl, rfl⟩

theorem dstep {callF : CallF} (hcall : CallOK P fm callF) (hS : Slots sl tms N) {E : Entry} {ks : List Nat} {b i : Nat} {x : AOper} {o : Oper} {R1 R2 : List (Nat × AOper)} {cops : Array Oper} {s s' : DSt} {a : Act} {w : World}
    (hc : chkOper P fm sl tms i x o = true) (hg : x.guard = o.guard) (hj : ∀ j b, x.guard = some (j, b) → ∃ s oj, tms[j]? = some (some s) ∧ cops[j]? = some oj ∧ oj.dst = some s) (ho : cops[i]? = some o)
    (hd : ∀ p ∈ R1 ++ R2, ∀ r ∈ slotsAt b ks i, r ∉ slotsAt b ks p.1) (hl : DLive fm sl N E ks b (R1 ++ (i, x) :: R2) s.1 tms a w) (h : stepD callF ks b i x s = some s')
    {K : Act → World → Prop} {Q : Exit → Act → World → Prop} (hK : ∀ a' w', DLive fm sl N E ks b (R1 ++ R2) s'.1 tms a' w' → K a' w') : wpOp P cops Q i K a w := by
  obtain ⟨F, ms, X, hR, hone, hF, hfr, hext, hN, hdf, hb, hnone⟩ := hl
  have hsub : ∀ p ∈ R1 ++ R2, p ∈ R1 ++ (i, x) :: R2 := fun p hp => by
    rcases List.mem_append.1 hp with hp | hp
    · exact List.mem_append_left _ hp
    · exact List.mem_append_right _ (List.mem_cons_of_mem _ hp)
  have hmem : (i, x) ∈ R1 ++ (i, x) :: R2 := List.mem_append_right _ (by simp)
  have hmono : ∀ r, okS ks b (R1 ++ (i, x) :: R2) r → okS ks b (R1 ++ R2) r := fun r hr p hp => hr p (hsub p hp)
  have hop : chkOp P fm sl tms x.op o.op = true := by
    simp only [chkOper, Bool.and_eq_true] at hc; exact hc.1.1.1
  have hops : ∀ y ∈ x.op.opds, ∃ z, Rel w F fm ((mkLoc w s.1.rows ms).on (okS ks b (R1 ++ (i, x) :: R2))) (opd s.1.vars s.1.ts y) z (fun _ => 0) := fun y hy => by
    obtain ⟨z, hz⟩ := chk_opds hop y hy
    exact ⟨_, opd_ok hfr hz⟩
  unfold wpOp
  rw [ho]
  simp only
  unfold stepD at h
  split at h
  · rename_i hw
    rw [wanted_ok hfr hg hj hw]
    simp only [if_true]
    split at h
    · simp at h
    rename_i v rows' he
    simp only [Option.some.injEq] at h
    subst h
    refine .inl ?_
    by_cases hgr : grows x.op = true
    · unfold execD at he
      rw [if_pos hgr] at he
      unfold execAt at he
      split at he
      · simp at he
      rename_i v0 back hx
      split at he
      case isFalse => simp at he
      rename_i hlen
      simp only [Option.some.injEq, Prod.mk.injEq] at he
      obtain ⟨hv, hr⟩ := he
      have hl : ∀ r ∈ opIds s.1.vars s.1.ts x.op, r < s.1.rows.length ∧ okS ks b (R1 ++ (i, x) :: R2) r := by
        unfold opIds
        refine idsL_ok (by simp) (idsInL_iff.2 fun d hd => ?_)
        obtain ⟨y, hy, rfl⟩ := List.mem_map.1 hd
        obtain ⟨z, hz⟩ := hops y hy
        exact hz.ok
      have hnd : (opIds s.1.vars s.1.ts x.op).Nodup := idsL_nodup (by simp)
      generalize hlg : opIds s.1.vars s.1.ts x.op = l at *
      have hml := hR.length
      obtain ⟨Xl, Xr, x1, x2, x3⟩ := rows_extract l hR hnd fun r hr => (hl r hr).1
      have hdown : LocMap (fun r => l.idxOf r) (((mkLoc w s.1.rows ms).on (okS ks b (R1 ++ (i, x) :: R2))).on (· ∈ l)) (mkLoc w (subRows s.1.rows l) (subM ms l)) :=
        LocMap.trans (f := fun r => r) (LocLe.map (LocLe.on2 (Loc.on_le _ _) fun _ _ h => h)) (loc_down hml)
      have cx : Cx w F fm (subRows s.1.rows l) (subM ms l) Xl sl tms (s.1.vars.map (maskD l)) (s.1.ts.map (maskD l)) a :=
        ⟨x1, fun b => by have := hone b; have := x3 b; omega, hF, ⟨fun k t ht => by rw [getD_mask]; exact (hfr.vars k t ht).mask hdown, fun k t ht => by rw [getD_mask]; exact (hfr.ts k t ht).mask hdown⟩⟩
      refine chkOp_ok cx hcall hop hx K Q fun u w' F' mb Xb r1 r2 r3 r4 r5 => hK _ _ ?_
      have hsl : ∀ r ∈ slotsAt b ks i, s.1.rows[r]? = some none := hnone (i, x) hmem
      have htake : (l ++ slotsAt b ks i).take back.length = l ++ (slotsAt b ks i).take (back.length - l.length) := by
        rw [List.take_append, List.take_of_length_le hlen.1]
      have hnew : ∀ r ∈ (slotsAt b ks i).take (back.length - l.length), r ∈ slotsAt b ks i := fun r hr => List.mem_of_mem_take hr
      have hrng : ∀ r ∈ slotsAt b ks i, r < s.1.rows.length := fun r hr => by
        rcases Nat.lt_or_ge r s.1.rows.length with h | h
        · exact h
        · have := hsl r hr
          simp [List.getElem?_eq_none h] at this
      have hnd2 : (l ++ (slotsAt b ks i).take (back.length - l.length)).Nodup := by
        rw [List.nodup_append]
        refine ⟨hnd, (List.nodup_range' (step := 1)).sublist (List.take_sublist _ _), fun r hr t ht e => ?_⟩
        subst e
        exact (hl r hr).2 (i, x) hmem (hnew r ht)
      have hbl : back.length = (l ++ (slotsAt b ks i).take (back.length - l.length)).length := by
        rw [← htake, List.length_take]; omega
      obtain ⟨v1, v2, v3⟩ := view_back hml hnd2 (fun r hr => by
          rcases List.mem_append.1 hr with h | h
          · exact (hl r h).1
          · exact hrng r (hnew r h)) (fun r hr => hsl r (hnew r hr)) hbl x2 (A := Xl) (fun b => by have := hone b; have := x3 b; omega) r1 r4
      rw [writeBack_eq, writeL_take, htake] at hr
      rw [hr] at v1 v2 v3
      have hone' : ∀ b, Xb b + Xr b ≤ 1 := fun b => by
        have g1 := r2 b
        have g2 := hone b
        have g3 := x3 b
        by_cases e : Xr b = 0
        · omega
        · by_cases e2 : Xb b = 0
          · omega
          · rcases r4.own b e2 with h | h
            · omega
            · have := x2.lt e
              omega
      have hle : LocLe ((mkLoc w s.1.rows ms).on (okS ks b (R1 ++ (i, x) :: R2))) ((mkLoc w' rows' (writeL ms (l ++ (slotsAt b ks i).take (back.length - l.length)) mb)).on (okS ks b (R1 ++ R2))) := by
        refine LocLe.trans ?_ (v2.loc.on2 (S := okS ks b (R1 ++ (i, x) :: R2)) fun r _ h => hmono r h)
        exact ⟨fun r hr => ⟨⟨hr.1, fun hn => hr.2 (i, x) hmem (hnew r hn)⟩, hr.2⟩, fun r _ => Nat.le_refl _, fun _ _ _ _ _ _ h => h⟩
      have hX : ∀ b, X b = Xl b + Xr b := x3
      have hext' : Ext E.w E.F E.L E.X w' F' ((mkLoc w' rows' (writeL ms (l ++ (slotsAt b ks i).take (back.length - l.length)) mb)).on (okS ks b (R1 ++ R2))) (fun b => Xb b + Xr b) := by
        refine hext.trans ?_
        have : X = fun b => Xl b + Xr b := funext hX
        rw [this]
        exact { v2 with loc := hle }
      have hres : Rel w' F' fm ((mkLoc w' rows' (writeL ms (l ++ (slotsAt b ks i).take (back.length - l.length)) mb)).on (okS ks b (R1 ++ R2))) v u (fun _ => 0) := by
        rw [← hv]
        refine r5.map fun k hk => ?_
        have hk' : k < back.length := hk
        have hkl : k < (l ++ (slotsAt b ks i).take (back.length - l.length)).length := by omega
        have e : (l ++ slotsAt b ks i).getD k 0 = (l ++ (slotsAt b ks i).take (back.length - l.length)).getD k 0 := by
          rw [← htake]
          simp only [List.getD]
          rw [List.getElem?_take_of_lt hk']
        have hmem2 : (l ++ (slotsAt b ks i).take (back.length - l.length)).getD k 0 ∈ l ++ (slotsAt b ks i).take (back.length - l.length) := by
          simp only [List.getD, List.getElem?_eq_getElem hkl]
          exact List.getElem_mem hkl
        obtain ⟨q1, q2, q3⟩ := v3 k hk
        rw [e]
        refine ⟨⟨q1, ?_⟩, q2, q3⟩
        rcases List.mem_append.1 hmem2 with h | h
        · exact hmono _ (hl _ h).2
        · exact fun p hp => hd p hp _ (hnew _ h)
      obtain ⟨pr1, pr2⟩ := put_rows (i := i) (dst := x.dst) (v := v) (rows := rows') (st := s.1)
      refine ⟨F', _, _, by rw [pr1]; exact v1, hone', r3, ?_, by rw [pr1]; exact hext', by rw [put_size]; exact hN, by rw [put_defers]; exact hdf, by rw [pr2]; exact hb, fun p hp r hr' => ?_⟩
      · rw [pr1]
        exact put_live hS hc hN (hfr.keep v2.keep0 hle) hres
      · rw [pr1, ← hr, writeL_out _ _ _ fun hm => ?_]
        · exact hnone p (hsub p hp) r hr'
        · rcases List.mem_append.1 hm with h | h
          · exact (hl r h).2 p (hsub p hp) hr'
          · exact hd p hp r (hnew r h) hr'
    · unfold execD at he
      rw [if_neg hgr] at he
      have hgr' : grows x.op = false := by simpa using hgr
      obtain ⟨h1, _⟩ := exec_still hgr' he
      subst h1
      have hids := exec_ids hop hR hgr' hops he
      have cx : Cx w F fm s.1.rows ms X sl tms s.1.vars s.1.ts a := ⟨hR, hone, hF, hfr.keep (Keep.refl _ _ _) (Loc.on_le _ _)⟩
      refine chkOp_ok cx hcall hop he K Q fun u w' F' ms' X' r1 r2 r3 r4 r5 => hK _ _ ?_
      obtain ⟨pr1, pr2⟩ := put_rows (i := i) (dst := x.dst) (v := v) (rows := s.1.rows) (st := s.1)
      have hle : LocLe ((mkLoc w s.1.rows ms).on (okS ks b (R1 ++ (i, x) :: R2))) ((mkLoc w' s.1.rows ms').on (okS ks b (R1 ++ R2))) := r4.loc.on2 fun r _ h => hmono r h
      refine ⟨F', ms', X', by rw [pr1]; exact r1, r2, r3, ?_, by rw [pr1]; exact hext.trans { r4 with loc := hle }, by rw [put_size]; exact hN, by rw [put_defers]; exact hdf, by rw [pr2]; exact hb, fun p hp r hr' => by rw [pr1]; exact hnone p (hsub p hp) r hr'⟩
      rw [pr1]
      exact put_live hS hc hN (hfr.keep r4.keep0 hle) (r5.on (hids.mono fun r hr => hmono r hr))
  · rename_i hw
    rw [wanted_ok hfr hg hj hw]
    simp only [Bool.false_eq_true, if_false]
    simp only [Option.some.injEq] at h
    subst h
    obtain ⟨pr1, pr2⟩ := passed_rows (i := i) (dst := x.dst) (st := s.1)
    have hle : LocLe ((mkLoc w s.1.rows ms).on (okS ks b (R1 ++ (i, x) :: R2))) ((mkLoc w s.1.rows ms).on (okS ks b (R1 ++ R2))) := (LocLe.refl _).on2 fun r _ h => hmono r h
    refine hK _ _ ⟨F, ms, X, by rw [pr1]; exact hR, hone, hF, ?_, by rw [pr1]; exact { hext with loc := hext.loc.trans hle }, by rw [put_size]; exact hN, by rw [put_defers]; exact hdf, by rw [pr2]; exact hb, fun p hp r hr' => by rw [pr1]; exact hnone p (hsub p hp) r hr'⟩
    rw [pr1]
    exact passed_live hS hc hN (hfr.keep (Keep.refl _ _ _) hle)
  · simp at h
end
end Av
namespace Av
open Go

section
variable {P : Program} {fm : Nat → Nat} {sl : List Nat} {tms : List (Option Nat)} {N : Nat}

theorem Live.base_le {E : Entry} {st : St} {a : Act} {w : World} (h : Live fm sl N E st tms a w) : st.base ≤ st.rows.length := by
  obtain ⟨F, ms, X, cx, ext, hN, hdf, hb⟩ := h
  rcases Nat.lt_or_ge st.rows.length st.base with h | h
  · have := ext.loc.1 st.rows.length ((hb _).2 h)
    exact absurd this (Nat.lt_irrefl _)
  · exact h

theorem compact_ok {E : Entry} {st : St} {a : Act} {w : World} (h : Live fm sl N E st tms a w) : Live fm sl N E (compact st) tms a w := by
  have hbl := h.base_le
  obtain ⟨F, ms, X, cx, ext, hN, hdf, hb⟩ := h
  unfold compact
  generalize hlg : (idsL (List.range st.base) (st.vars ++ st.ts)).filter (fun r => decide (r < st.rows.length)) = l
  have hl : ∀ r ∈ l, r < st.rows.length := fun r hr => by
    rw [← hlg] at hr
    simpa using (List.mem_filter.1 hr).2
  have hnd0 : (idsL (List.range st.base) (st.vars ++ st.ts)).Nodup := idsL_nodup List.nodup_range
  have hnd : l.Nodup := by rw [← hlg]; exact hnd0.sublist List.filter_sublist
  have hidx : ∀ r, r < st.base → r ∈ l ∧ l.idxOf r = r := fun r hr => by
    obtain ⟨t, ht⟩ := idsL_pre (st.vars ++ st.ts) (List.range st.base)
    have e : l = List.range st.base ++ t.filter fun r => decide (r < st.rows.length) := by
      rw [← hlg, ht, List.filter_append]
      congr 1
      rw [List.filter_eq_self]
      intro x hx
      have := List.mem_range.1 hx
      simp; omega
    have hg : l[r]? = some r := by
      rw [e, List.getElem?_append_left (by simpa using hr)]
      simp [hr]
    obtain ⟨h1, h2⟩ := List.getElem?_eq_some_iff.1 hg
    refine ⟨List.mem_of_getElem? hg, ?_⟩
    have := hnd.idxOf_getElem r h1
    rw [h2] at this
    exact this
  have hml := cx.rel.length
  obtain ⟨Xl, Xr, x1, x2, x3⟩ := rows_extract l cx.rel hnd hl
  have hdown : LocMap (fun r => l.idxOf r) ((mkLoc w st.rows ms).on (· ∈ l)) (mkLoc w (subRows st.rows l) (subM ms l)) := loc_down hml
  refine ⟨F, subM ms l, Xl, ⟨x1, fun b => by have := cx.one b; have := x3 b; omega, cx.fok, ⟨fun k t ht => by rw [getD_mask]; exact (cx.fr.vars k t ht).mask hdown, fun k t ht => by rw [getD_mask]; exact (cx.fr.ts k t ht).mask hdown⟩⟩, ?_, hN, hdf, hb⟩
  have hle : LocLe E.L (mkLoc w (subRows st.rows l) (subM ms l)) := by
    have h1 : LocMap (fun r => r) E.L ((mkLoc w st.rows ms).on (· ∈ l)) := fun r hr => by
      obtain ⟨g1, g2, g3⟩ := ext.loc.map r hr
      exact ⟨⟨g1, (hidx r ((hb r).1 hr)).1⟩, g2, g3⟩
    exact (h1.trans hdown).le fun r hr => (hidx r ((hb r).1 hr)).2
  exact { ext with own := fun b hb => ext.own b (by have := x3 b; omega), loc := hle }

theorem keepLive_get {live : List Nat} : ∀ {ds : List D} {i k : Nat}, (keepLive live i ds).getD k .undef = if live.contains (i + k) then ds.getD k .undef else .undef
  | [], i, k => by simp [keepLive]
  | d :: ds, i, 0 => by simp [keepLive]
  | d :: ds, i, k + 1 => by
    have := keepLive_get (live := live) (ds := ds) (i := i + 1) (k := k)
    rw [show i + 1 + k = i + (k + 1) by omega] at this
    simp only [List.getD] at this
    simp only [keepLive, List.getD, List.getElem?_cons_succ]
    exact this

theorem norm_ok {E : Entry} {st : St} {a : Act} {w : World} {live : List Nat} (h : Live fm sl N E st tms a w) : Live fm sl N E (norm live st) [] a w := by
  unfold norm
  refine compact_ok ?_
  obtain ⟨F, ms, X, cx, ext, hN, hdf, hb⟩ := h
  refine ⟨F, ms, X, ⟨cx.rel, cx.one, cx.fok, ⟨fun k t ht => ?_, fun k t ht => by simp at ht⟩⟩, ext, hN, hdf, hb⟩
  simp only
  rw [keepLive_get]
  split
  · exact cx.fr.vars k t ht
  · exact Rel.undef0

theorem shareVars_ok {E : Entry} {a : Act} {w : World} : ∀ {is : List Nat} {st st' : St}, (is.all fun i => decide (i < sl.length)) = true → Live fm sl N E st tms a w → shareVars is st = some st' → Live fm sl N E st' tms a w
  | [], st, st', _, hl, h => by simp only [shareVars, Option.some.injEq] at h; rw [← h]; exact hl
  | i :: is, st, st', hi, hl, h => by
    simp only [List.all_cons, Bool.and_eq_true, decide_eq_true_eq] at hi
    simp only [shareVars] at h
    split at h
    · simp at h
    rename_i rows v hs
    refine shareVars_ok hi.2 ?_ h
    obtain ⟨F, ms, X, cx, ext, hN, hdf, hb⟩ := hl
    have hsi : sl[i]? = some sl[i] := List.getElem?_eq_getElem hi.1
    have hv := cx.fr.vars i _ hsi
    obtain ⟨F', ms', X', h1, h2, h3, _, h5, h6⟩ := (shareV_ok _ hs cx.rel hv (fun b => by have := cx.one b; omega) cx.fok).zero cx.one
    have hfr := cx.fr.keep h3.keep0 h3.loc
    refine ⟨F', ms', X', ⟨h1, h6, h5, ⟨fun k t ht => ?_, hfr.ts⟩⟩, ext.trans h3, hN, hdf, hb⟩
    simp only
    by_cases e : i = k
    · subst e
      have : sl[i] = t := by rw [hsi] at ht; simpa using ht
      subst this
      rcases getD_set_or (l := st.vars) (i := i) (d := v) with e | e <;> rw [e]
      · exact LocLe.of0 h2
      · exact Rel.undef0
    · rw [getD_set_ne' e]
      exact hfr.vars k t ht
end
end Av
namespace Av
open Go

/-! ### The check of a region whose order is drawn -/
def ancOf (T : List Nat) (o : Oper) : Nat := o.after.toList.foldl (fun m e => if Region.binds .any e then m ||| (2 ^ e.on ||| T.getD e.on 0) else m) 0
def ancGo : List Oper → List Nat → List Nat
  | [], T => T
  | o :: os, T => ancGo os (T ++ [ancOf T o])
def chkAnc (T : List Nat) : Nat → List Oper → Bool
  | _, [] => true
  | i, o :: os => (o.after.toList.all fun e => !Region.binds .any e || decide (e.on < i)) && T.getD i 0 == ancOf T o && chkAnc T (i + 1) os
def compat (j : Nat) (y : AOper) (i : Nat) (x : AOper) (pairs : List (Nat × Nat)) : Bool :=
  indep j y i x && (touch x.op == 0 || touch y.op == 0 || (!grows x.op && !grows y.op) || pairs.contains (j, i))
def chkRow (m : Nat) (pairs : List (Nat × Nat)) (i : Nat) (x : AOper) : Nat → List AOper → Bool
  | _, [] => true
  | j, y :: ys => (m.testBit j || compat j y i x pairs) && chkRow m pairs i x (j + 1) ys
def chkPairs (T : List Nat) (pairs : List (Nat × Nat)) (all : List AOper) : Nat → List AOper → Bool
  | _, [] => true
  | i, x :: xs => chkRow (T.getD i 0) pairs i x 0 (all.take i) && chkPairs T pairs all (i + 1) xs
def chkDraw (as : List AOper) (os : List Oper) (pairs : List (Nat × Nat)) : Bool :=
  (as.all fun x => modesOK x.op) && chkAnc (ancGo os []) 0 os && chkPairs (ancGo os []) pairs as 0 as

theorem chkAnc_get {T : List Nat} : ∀ {os : List Oper} {i j : Nat} {o : Oper}, chkAnc T i os = true → os[j]? = some o → (∀ e ∈ o.after, Region.binds .any e = true → e.on < i + j) ∧ T.getD (i + j) 0 = ancOf T o
  | [], _, _, _, _, h => by simp at h
  | p :: os, i, 0, o, h, ho => by
    simp only [List.getElem?_cons_zero, Option.some.injEq] at ho
    subst ho
    simp only [chkAnc, Bool.and_eq_true, List.all_eq_true, Bool.or_eq_true, decide_eq_true_eq, beq_iff_eq] at h
    refine ⟨fun e he hb => (h.1.1 e (by simpa using he)).resolve_left (by simp [hb]), h.1.2⟩
  | p :: os, i, j + 1, o, h, ho => by
    simp only [chkAnc, Bool.and_eq_true] at h
    have := chkAnc_get h.2 (by simpa using ho)
    rw [show i + 1 + j = i + (j + 1) by omega] at this
    exact this

theorem anc_bit {T : List Nat} {o : Oper} {j : Nat} (h : (ancOf T o).testBit j = true) : ∃ e ∈ o.after, Region.binds .any e = true ∧ (j = e.on ∨ (T.getD e.on 0).testBit j = true) := by
  have aux : ∀ (l : List Edge) (m : Nat), (l.foldl (fun m e => if Region.binds .any e then m ||| (2 ^ e.on ||| T.getD e.on 0) else m) m).testBit j = true → m.testBit j = true ∨ ∃ e ∈ l, Region.binds .any e = true ∧ (j = e.on ∨ (T.getD e.on 0).testBit j = true) := by
    intro l
    induction l with
    | nil => intro m h; exact .inl h
    | cons e l ih =>
      intro m h
      simp only [List.foldl_cons] at h
      rcases ih _ h with h1 | ⟨e', he, h1⟩
      · by_cases hb : Region.binds .any e = true
        · rw [if_pos hb] at h1
          rw [Nat.testBit_or, Nat.testBit_or, Nat.testBit_two_pow] at h1
          simp only [Bool.or_eq_true, decide_eq_true_eq] at h1
          rcases h1 with h1 | h1 | h1
          · exact .inl h1
          · exact .inr ⟨e, by simp, hb, .inl h1.symm⟩
          · exact .inr ⟨e, by simp, hb, .inr h1⟩
        · rw [if_neg hb] at h1
          exact .inl h1
      · exact .inr ⟨e', by simp [he], h1⟩
  rcases aux _ _ h with h | ⟨e, he, h⟩
  · simp at h
  · exact ⟨e, by simpa using he, h⟩

theorem chkRow_get {m : Nat} {pairs : List (Nat × Nat)} {i : Nat} {x : AOper} : ∀ {ys : List AOper} {j k : Nat} {y : AOper}, chkRow m pairs i x j ys = true → ys[k]? = some y → m.testBit (j + k) = true ∨ compat (j + k) y i x pairs = true
  | [], _, _, _, _, h => by simp at h
  | z :: ys, j, 0, y, h, hy => by
    simp only [List.getElem?_cons_zero, Option.some.injEq] at hy
    subst hy
    simp only [chkRow, Bool.and_eq_true, Bool.or_eq_true] at h
    exact h.1
  | z :: ys, j, k + 1, y, h, hy => by
    simp only [chkRow, Bool.and_eq_true] at h
    have := chkRow_get h.2 (by simpa using hy)
    rw [show j + 1 + k = j + (k + 1) by omega] at this
    exact this
theorem chkPairs_get {T : List Nat} {pairs : List (Nat × Nat)} {all : List AOper} : ∀ {xs : List AOper} {i k : Nat} {x : AOper}, chkPairs T pairs all i xs = true → xs[k]? = some x → chkRow (T.getD (i + k) 0) pairs (i + k) x 0 (all.take (i + k)) = true
  | [], _, _, _, _, h => by simp at h
  | z :: xs, i, 0, x, h, hx => by
    simp only [List.getElem?_cons_zero, Option.some.injEq] at hx
    subst hx
    simp only [chkPairs, Bool.and_eq_true] at h
    exact h.1
  | z :: xs, i, k + 1, x, h, hx => by
    simp only [chkPairs, Bool.and_eq_true] at h
    have := chkPairs_get h.2 (by simpa using hx)
    rw [show i + 1 + k = i + (k + 1) by omega] at this
    exact this

theorem disj_ok {a b : List Nat} (h : disj a b = true) : ∀ r ∈ a, r ∉ b := fun r hr => by
  unfold disj at h
  simp only [List.all_eq_true] at h
  simpa using h r hr

theorem writes_nil {op : AOp} (h : grows op = false) (fp s : List Nat) : writes op fp s = [] := by simp [writes, h]
theorem touch0_grows {op : AOp} (h : touch op = 0) : grows op = false := by
  cases hg : grows op with
  | false => rfl
  | true => rcases grows_touch hg with h1 | h1 <;> omega

theorem compat_apart {fin : DSt} {ks : List Nat} {b j i : Nat} {x y : AOper} {pairs : List (Nat × Nat)} {as : List AOper} (h : compat j y i x pairs = true) (hp : pairs.all (apart as fin.2 ks b) = true) (hj : as[j]? = some y) (hi : as[i]? = some x) :
    indep j y i x = true ∧ Apart fin ks b j y i x := by
  simp only [compat, Bool.and_eq_true, Bool.or_eq_true, beq_iff_eq, Bool.not_eq_true'] at h
  obtain ⟨h1, h2⟩ := h
  refine ⟨h1, ?_⟩
  have r0 : ∀ {op : AOp} (fp : List Nat), touch op = 0 → reads op fp = [] := fun fp h => by simp [reads, h]
  rcases h2 with ((h2 | h2) | h2) | h2
  · refine ⟨fun r _ => ?_, fun r hr => ?_⟩
    · rw [r0 _ h2, writes_nil (touch0_grows h2)]; simp
    · rw [writes_nil (touch0_grows h2)] at hr; simp at hr
  · refine ⟨fun r hr => ?_, fun r _ => ?_⟩
    · rw [writes_nil (touch0_grows h2)] at hr; simp at hr
    · rw [r0 _ h2]; simp
  · refine ⟨fun r hr => ?_, fun r hr => ?_⟩
    · rw [writes_nil h2.2] at hr; simp at hr
    · rw [writes_nil h2.1] at hr; simp at hr
  · have := List.all_eq_true.1 hp (j, i) (by simpa using h2)
    simp only [apart, hj, hi, Bool.and_eq_true] at this
    refine ⟨fun r hr => ?_, fun r hr => disj_ok this.2 r hr⟩
    have := disj_ok this.1 r hr
    simpa using this

/-! ### Slots -/
theorem slots_mem {b i r : Nat} {ks : List Nat} : r ∈ slotsAt b ks i ↔ b + (ks.take i).sum ≤ r ∧ r < b + (ks.take i).sum + ks.getD i 0 := by
  unfold slotsAt; simp [List.mem_range']; exact ⟨fun ⟨k, h1, h2⟩ => by omega, fun h => ⟨r - (b + (ks.take i).sum), by omega, by omega⟩⟩
theorem sum_take_succ : ∀ (ks : List Nat) (i : Nat), (ks.take (i + 1)).sum = (ks.take i).sum + ks.getD i 0
  | [], i => by simp
  | k :: ks, 0 => by simp
  | k :: ks, i + 1 => by
    simp only [List.take_succ_cons, List.sum_cons]
    have h := sum_take_succ ks i
    have e : (k :: ks).getD (i + 1) 0 = ks.getD i 0 := by simp
    rw [e]; omega
theorem sum_take_le (ks : List Nat) : ∀ (i d : Nat), (ks.take i).sum ≤ (ks.take (i + d)).sum
  | _, 0 => Nat.le_refl _
  | i, d + 1 => by
    have h := sum_take_le ks i d
    have e := sum_take_succ ks (i + d)
    rw [show i + (d + 1) = i + d + 1 by omega]; omega
theorem slots_disj {b i j r : Nat} {ks : List Nat} (h : i ≠ j) (hi : r ∈ slotsAt b ks i) : r ∉ slotsAt b ks j := fun hj => by
  rw [slots_mem] at hi hj
  have ei := sum_take_succ ks i
  have ej := sum_take_succ ks j
  rcases Nat.lt_or_ge i j with hl | hl
  · have := sum_take_le ks (i + 1) (j - (i + 1))
    rw [show i + 1 + (j - (i + 1)) = j by omega] at this
    omega
  · have := sum_take_le ks (j + 1) (i - (j + 1))
    rw [show j + 1 + (i - (j + 1)) = i by omega] at this
    omega
theorem slots_lt {b i r : Nat} {ks : List Nat} (hi : r ∈ slotsAt b ks i) : b ≤ r ∧ r < b + ks.sum := by
  rw [slots_mem] at hi
  have ei := sum_take_succ ks i
  have := sum_take_le ks (i + 1) ks.length
  rw [List.take_of_length_le (by omega : ks.length ≤ i + 1 + ks.length)] at this
  omega

theorem rows_pad {w : World} {F : FZ} {fm : Nat → Nat} (n : Nat) : ∀ {rows : Rows} {ms : Ms} {X : Cnt}, RowsRel w F fm rows ms X → RowsRel w F fm (rows ++ List.replicate n none) (ms ++ List.replicate n (none, 0)) X
  | [], ms, X, h => by
    unfold RowsRel at h
    obtain ⟨rfl, hz⟩ := h
    simp only [List.nil_append]
    induction n with
    | zero => simp only [List.replicate_zero]; unfold RowsRel; exact ⟨rfl, hz⟩
    | succ n ih =>
      simp only [List.replicate_succ]
      unfold RowsRel
      exact ⟨_, _, fun _ => 0, X, rfl, Zero.of_zero, ih, fun b => by simp⟩
  | r :: rows, ms, X, h => by
    unfold RowsRel at h
    obtain ⟨m, ms', X1, X2, rfl, h1, h2, hX⟩ := h
    simp only [List.cons_append]
    unfold RowsRel
    exact ⟨m, _, X1, X2, rfl, by cases r <;> exact h1, rows_pad n h2, hX⟩

theorem number_get : ∀ {xs : List AOper} {i : Nat} {p : Nat × AOper}, p ∈ number i xs → i ≤ p.1 ∧ xs[p.1 - i]? = some p.2
  | [], i, p, h => by simp [number] at h
  | x :: xs, i, p, h => by
    simp only [number, List.mem_cons] at h
    rcases h with e | h
    · subst e; simp
    · obtain ⟨h1, h2⟩ := number_get h
      refine ⟨by omega, ?_⟩
      rw [show p.1 - i = (p.1 - (i + 1)) + 1 by omega, List.getElem?_cons_succ]
      exact h2
theorem number_sorted : ∀ (xs : List AOper) (i : Nat), ((number i xs).map (·.1)).Pairwise (· < ·)
  | [], i => by simp [number]
  | x :: xs, i => by
    simp only [number, List.map_cons, List.pairwise_cons]
    refine ⟨fun j hj => ?_, number_sorted xs (i + 1)⟩
    obtain ⟨p, hp, rfl⟩ := List.mem_map.1 hj
    have := (number_get hp).1
    omega
theorem number_length : ∀ (xs : List AOper) (i : Nat), (number i xs).length = xs.length
  | [], _ => rfl
  | x :: xs, i => by simp [number, number_length xs]
theorem number_mem : ∀ {xs : List AOper} {i j : Nat} {x : AOper}, xs[j]? = some x → (i + j, x) ∈ number i xs
  | [], i, j, x, h => by simp at h
  | y :: xs, i, 0, x, h => by simp at h; subst h; simp [number]
  | y :: xs, i, j + 1, x, h => by
    simp only [number, List.mem_cons]
    right
    rw [show i + (j + 1) = i + 1 + j by omega]
    exact number_mem (by simpa using h)

section
variable {P : Program} {fm : Nat → Nat} {sl : List Nat} {N : Nat}

theorem dall {callF : CallF} (hcall : CallOK P fm callF) {E : Entry} {ks : List Nat} {b : Nat} {as : List AOper} {cops : Array Oper} {pairs : List (Nat × Nat)} {fin : DSt} {Q : Exit → Act → World → Prop}
    (hS : Slots sl (tmsOf as cops.toList) N) (hall : chkOpers P fm sl (tmsOf as cops.toList) 0 as cops.toList = true) (hd : chkDraw as cops.toList pairs = true) (hp : pairs.all (apart as fin.2 ks b) = true)
    (hQ : ∀ a' w', DLive fm sl N E ks b [] fin.1 (tmsOf as cops.toList) a' w' → Q .normal a' w') : ∀ (n : Nat) (R : List (Nat × AOper)) (listed : Array Bool) (a : Act) (w : World) (s : DSt),
      R.length = n → runL callF ks b R s = some fin → (R.map (·.1)).Pairwise (· < ·) → (∀ p ∈ R, as[p.1]? = some p.2) → listed.size = as.length → (∀ k, k < as.length → (listed.getD k true = false ↔ k ∈ R.map (·.1))) →
      (∀ k j, k < as.length → k ∉ R.map (·.1) → ((ancGo cops.toList []).getD k 0).testBit j = true → j ∉ R.map (·.1)) → s.2.length = as.length → DLive fm sl N E ks b R s.1 (tmsOf as cops.toList) a w → wpAny P .any cops Q n listed a w := by
  obtain ⟨hlen, hget⟩ := chkOpers_get hall
  simp only [chkDraw, Bool.and_eq_true, List.all_eq_true] at hd
  obtain ⟨⟨hmo, hanc⟩, hpr⟩ := hd
  have hopA : ∀ {k : Nat}, k < as.length → ∃ o, cops[k]? = some o ∧ cops.toList[k]? = some o := fun {k} hk => by
    have h : k < cops.toList.length := by omega
    have h2 : k < cops.size := by simpa using h
    exact ⟨cops[k], by simp [h2], by rw [Array.getElem?_toList]; simp [h2]⟩
  have hltA : ∀ {k : Nat} {x : AOper}, as[k]? = some x → k < as.length := fun h => (List.getElem?_eq_some_iff.1 h).1
  have listed_tt : ∀ {listed : Array Bool} {R : List (Nat × AOper)} {k : Nat}, listed.size = as.length → (∀ k, k < as.length → (listed.getD k true = false ↔ k ∈ R.map (·.1))) → k < as.length → k ∉ R.map (·.1) → listed.getD k false = true := fun {listed R k} h1 h2 h3 h4 => by
    have h5 : listed.getD k true ≠ false := fun e => h4 ((h2 k h3).1 e)
    have h6 : k < listed.size := by omega
    simp only [Array.getD, h6, dif_pos] at h5 ⊢
    simpa using h5
  intro n
  induction n with
  | zero =>
    intro R listed a w s hRl hrun _ _ hsz hli _ _ hl
    have : R = [] := List.eq_nil_of_length_eq_zero hRl
    subst this
    simp only [runL, Option.some.injEq] at hrun
    subst hrun
    refine ⟨?_, hQ _ _ hl⟩
    rw [List.eq_nil_iff_forall_not_mem]
    intro j hj
    obtain ⟨h1, o, h2, _⟩ := mem_ready.1 hj
    have hja : j < as.length := by
      have := (Array.getElem?_eq_some_iff.1 h2).1
      rw [hlen]; simpa using this
    have := (hli j hja).1 h1
    simp at this
  | succ n ih =>
    intro R listed a w s hRl hrun hso hR hsz hli hcl hfl hl
    refine ⟨fun hr => ?_, fun i hi => ?_⟩
    · exfalso
      match R, hRl with
      | (i0, x0) :: R', _ =>
        have hi0 := hltA (hR (i0, x0) (by simp))
        obtain ⟨o, ho, ho'⟩ := hopA hi0
        have hmem : i0 ∈ Region.ready .any cops listed := by
          rw [mem_ready]
          refine ⟨(hli i0 hi0).2 (by simp), o, ho, fun e he hb => ?_⟩
          obtain ⟨g1, _⟩ := chkAnc_get (i := 0) hanc ho'
          have hlt := g1 e he hb
          rw [Nat.zero_add] at hlt
          refine listed_tt hsz hli (by omega) fun hm => ?_
          simp only [List.map_cons, List.mem_cons] at hm
          rcases hm with hm | hm
          · omega
          · have : i0 < e.on := (List.pairwise_cons.1 hso).1 _ hm
            omega
        rw [hr] at hmem
        simp at hmem
    · obtain ⟨h1, o, ho, hedge⟩ := mem_ready.1 hi
      have hia : i < as.length := by
        have := (Array.getElem?_eq_some_iff.1 ho).1
        rw [hlen]; simpa using this
      have hiR := (hli i hia).1 h1
      obtain ⟨⟨i', x⟩, hpx, e⟩ := List.mem_map.1 hiR
      simp only at e
      subst e
      obtain ⟨R1, R2, rfl⟩ := List.append_of_mem hpx
      have hx := hR _ hpx
      simp only at hx
      have ho' : cops.toList[i']? = some o := by rw [Array.getElem?_toList]; exact ho
      have hnd : ((R1 ++ (i', x) :: R2).map (·.1)).Nodup := hso.imp fun h => Nat.ne_of_lt h
      have hnot : ∀ j, ((ancGo cops.toList []).getD i' 0).testBit j = true → j ∉ (R1 ++ (i', x) :: R2).map (·.1) := fun j hj => by
        obtain ⟨g0, g1⟩ := chkAnc_get (i := 0) hanc ho'
        rw [Nat.zero_add] at g0 g1
        rw [g1] at hj
        obtain ⟨e, he, hb, hj⟩ := anc_bit hj
        have hlist := hedge e he hb
        have hea : e.on < as.length := by have := g0 e he hb; omega
        have henot : e.on ∉ (R1 ++ (i', x) :: R2).map (·.1) := fun hm => by
          have h5 := (hli e.on hea).2 hm
          have h6 : e.on < listed.size := by omega
          simp only [Array.getD, h6, dif_pos] at h5 hlist
          rw [h5] at hlist
          simp at hlist
        rcases hj with rfl | hj
        · exact henot
        · exact hcl e.on j hea henot hj
      have hbub := bubble (fun p hp => hmo p.2 (List.mem_of_getElem? (hR p hp))) hrun hnd (fun p hp => by rw [hfl]; exact hltA (hR p hp)) (fun p hp1 => by
        have hpm : p ∈ R1 ++ (i', x) :: R2 := List.mem_append_left _ hp1
        have hpa := hR p hpm
        have hlt : p.1 < i' := by
          rw [List.map_append, List.map_cons, List.pairwise_append] at hso
          exact hso.2.2 p.1 (List.mem_map.2 ⟨p, hp1, rfl⟩) i' (by simp)
        have hrow := chkPairs_get (i := 0) hpr hx
        rw [Nat.zero_add] at hrow
        have := chkRow_get (j := 0) (k := p.1) hrow (by rw [List.getElem?_take_of_lt hlt]; exact hpa)
        rw [Nat.zero_add] at this
        rcases this with h | h
        · exact absurd (List.mem_map.2 ⟨p, hpm, rfl⟩) (hnot p.1 h)
        · exact compat_apart h hp hpa hx)
      obtain ⟨s', hst, hrun'⟩ := hbub
      have hsub : ∀ p ∈ R1 ++ R2, p ∈ R1 ++ (i', x) :: R2 := fun p hp => by
        rcases List.mem_append.1 hp with hp | hp
        · exact List.mem_append_left _ hp
        · exact List.mem_append_right _ (List.mem_cons_of_mem _ hp)
      have hinot : i' ∉ (R1 ++ R2).map (·.1) := by
        rw [List.map_append, List.map_cons, List.nodup_append] at hnd
        obtain ⟨_, n2, n3⟩ := hnd
        rw [List.map_append, List.mem_append, not_or]
        exact ⟨fun hi => n3 i' hi i' (by simp) rfl, (List.nodup_cons.1 n2).1⟩
      have hiff : ∀ k, k ∈ (R1 ++ R2).map (·.1) ↔ k ∈ (R1 ++ (i', x) :: R2).map (·.1) ∧ k ≠ i' := fun k => by
        constructor
        · intro hk
          obtain ⟨p, hp, rfl⟩ := List.mem_map.1 hk
          exact ⟨List.mem_map.2 ⟨p, hsub p hp, rfl⟩, fun e => hinot (e ▸ hk)⟩
        · rintro ⟨hk, hne⟩
          obtain ⟨p, hp, rfl⟩ := List.mem_map.1 hk
          refine List.mem_map.2 ⟨p, ?_, rfl⟩
          rcases List.mem_append.1 hp with hp | hp
          · exact List.mem_append_left _ hp
          · rcases List.mem_cons.1 hp with e | hp
            · subst e; exact absurd rfl hne
            · exact List.mem_append_right _ hp
      have hc := hget i' x o hx ho'
      rw [Nat.zero_add] at hc
      obtain ⟨hg, hj⟩ := guard_of rfl hc
      have hfl' : s'.2.length = as.length := by
        obtain ⟨e, rfl, _⟩ := stepD_local (hmo x (List.mem_of_getElem? hx)) hst
        rw [run_fpl, hfl]
      refine dstep hcall hS hc hg hj ho (fun p hp r hr => slots_disj (fun e => hinot (by rw [e]; exact List.mem_map.2 ⟨p, hp, rfl⟩)) hr) hl hst fun a' w' hl' => ?_
      refine ih (R1 ++ R2) (listed.setIfInBounds i' true) a' w' s' (by simp only [List.length_append, List.length_cons] at hRl ⊢; omega) hrun' ?_ (fun p hp => hR p (hsub p hp)) (by simp [hsz]) (fun k hk => ?_) (fun k j hk hkn hj => ?_) hfl' hl'
      · refine hso.sublist ?_
        rw [List.map_append, List.map_append, List.map_cons]
        exact (List.sublist_cons_self _ _).append_left _
      · by_cases e : i' = k
        · subst e
          have h6 : i' < (listed.setIfInBounds i' true).size := by simp; omega
          simp only [Array.getD, h6, dif_pos]
          exact ⟨fun h => by simp at h, fun h => absurd h hinot⟩
        · rw [getD_set_ne true e, hli k hk, hiff]
          exact ⟨fun h => ⟨h, Ne.symm e⟩, fun h => h.1⟩
      · rw [hiff]
        rintro ⟨hjm, _⟩
        by_cases e : k = i'
        · subst e; exact hnot j hj hjm
        · exact hcl k j hk (fun hm => hkn ((hiff k).2 ⟨hm, e⟩)) hj hjm

theorem Live.draw {E : Entry} {st : St} {tms : List (Option Nat)} {a : Act} {w : World} {n : Nat} (h : Live fm sl N E st tms a w) : Live fm sl N E st tms a { w with drawn := n } := by
  obtain ⟨F, ms, X, cx, ext, hN, hdf, hb⟩ := h
  have hext : Ext w F (mkLoc w st.rows ms) X { w with drawn := n } F (mkLoc { w with drawn := n } st.rows ms) X :=
    ⟨fun _ _ _ => rfl, fun _ _ h => h, fun _ _ h => .inl h, fun _ h => .inl h, fun _ _ _ => rfl, fun _ _ h => h, rfl, rfl, rfl, Nat.le_refl _, mkLoc_world cx.rel fun _ _ => rfl⟩
  have hk : Keep w F { w with drawn := n } F X := ⟨fun _ _ _ => rfl, fun _ _ => rfl, fun _ _ h => h, fun _ _ _ h => h, fun _ _ h => h⟩
  exact ⟨F, ms, X, ⟨cx.rel.keep hk, cx.one, fun b o h => cx.fok b o h, cx.fr.keep hext.keep0 hext.loc⟩, ext.trans hext, hN, hdf, hb⟩

/-- A region whose order is drawn. -/
theorem draw_ok {callF : CallF} (hm : P.follows .mixedOrders = true) (hcall : CallOK P fm callF) {E : Entry} {as : List AOper} {cops : Array Oper} {id : Nat} {pairs : List (Nat × Nat)} {ks : List Nat} {Q : Exit → Act → World → Prop} {tms0 : List (Option Nat)} {st st' : St} {a : Act} {w : World}
    (hS : chkSlots sl (tmsOf as cops.toList) N = true) (hall : chkOpers P fm sl (tmsOf as cops.toList) 0 as cops.toList = true) (hd : chkDraw as cops.toList pairs = true) (hl : Live fm sl N E st tms0 a w)
    (h : drawn callF as pairs ks st = some st') (hQ : ∀ a' w', Live fm sl N E st' (tmsOf as cops.toList) a' w' → Q .normal a' w') : (Code.region id cops true).wp P Q a w := by
  refine wp_region_any hm ?_
  have hl := hl.draw (n := w.drawn + 1)
  generalize ({ w with drawn := w.drawn + 1 } : World) = w1 at hl ⊢
  obtain ⟨hlen, _⟩ := chkOpers_get hall
  unfold drawn at h
  split at h
  · simp at h
  rename_i st1 fp hrun
  split at h
  case isFalse => simp at h
  rename_i hp
  simp only [Option.some.injEq] at h
  subst h
  rw [runD_eq] at hrun
  rw [show cops.size = as.length by rw [hlen, Array.length_toList]]
  refine dall hcall (fin := (st1, fp)) (b := st.rows.length) (ks := ks) (E := E) (chkSlots_ok hS) hall hd hp (fun a' w' hl' => hQ _ _ (compact_ok ?_)) as.length (number 0 as) _ a w1 _ (number_length _ _) hrun (number_sorted _ _) (fun p hp => by simpa using (number_get hp).2) (by simp) (fun k hk => ?_) (fun k j hk hkn => ?_) (by simp) ?_
  · obtain ⟨F, ms, X, h1, h2, h3, h4, h5, h6, h7, h8, _⟩ := hl'
    exact ⟨F, ms, X, ⟨h1, h2, h3, h4.keep (Keep.refl _ _ _) (Loc.on_le _ _)⟩, { h5 with loc := h5.loc.trans (Loc.on_le _ _) }, h6, h7, h8⟩
  · have : k < (Array.replicate as.length false).size := by simpa using hk
    simp only [Array.getD, this, dif_pos]
    have hm := number_mem (i := 0) (List.getElem?_eq_getElem hk)
    rw [Nat.zero_add] at hm
    simp only [Array.getInternal_eq_getElem, Array.getElem_replicate, true_iff]
    exact List.mem_map.2 ⟨_, hm, rfl⟩
  · have hm := number_mem (i := 0) (List.getElem?_eq_getElem hk)
    rw [Nat.zero_add] at hm
    exact absurd (List.mem_map.2 ⟨_, hm, rfl⟩) hkn
  · obtain ⟨F, ms, X, cx, ext, hN, hdf, hb⟩ := hl
    have hml := cx.rel.length
    have hle : LocLe (mkLoc w1 st.rows ms) ((mkLoc w1 (st.rows ++ List.replicate ks.sum none) (ms ++ List.replicate ks.sum (none, 0))).on (okS ks st.rows.length (number 0 as))) := by
      have : LocMap (fun r => r) ((mkLoc w1 st.rows ms).on (fun _ => True)) (mkLoc w1 (st.rows ++ List.replicate ks.sum none) (ms ++ List.replicate ks.sum (none, 0))) := locMap_of_eq fun r hr _ =>
        ⟨by simp; omega, (List.getElem?_append_left hr).symm, (List.getElem?_append_left (by omega)).symm⟩
      refine LocMap.le (f := fun r => r) (fun r hr => ?_) fun _ _ => rfl
      obtain ⟨g1, g2, g3⟩ := this r ⟨hr, trivial⟩
      refine ⟨⟨g1, fun p _ hm => ?_⟩, g2, g3⟩
      have h1 : st.rows.length ≤ r := (slots_lt hm).1
      have h2 : r < st.rows.length := hr
      omega
    refine ⟨F, _, X, rows_pad ks.sum cx.rel, cx.one, cx.fok, ⟨fun k s hs => (cx.fr.vars k s hs).keep (Keep.refl _ _ _) hle, fun i s hs => ?_⟩, { ext with loc := ext.loc.trans hle }, hN, hdf, hb, fun p _ r hr => ?_⟩
    · have : (List.replicate as.length D.undef).getD i .undef = .undef := by
        simp only [List.getD, List.getElem?_replicate]
        split <;> rfl
      simp only
      rw [this]
      exact Rel.undef0
    · obtain ⟨h1, h2⟩ := slots_lt hr
      simp only
      rw [List.getElem?_append_right h1, List.getElem?_replicate, if_pos (by omega)]
end
end Av
namespace Av
open Go

def strip : Code → Code
  | .scope c => strip c
  | c => c

def chkC (P : Program) (fm : Nat → Nat) (sl : List Nat) (N : Nat) : ACode → List (Option Nat) → Code → Option (List (Option Nat))
  | .skip, tms, c => (match strip c with | .skip => some tms | .label _ => some tms | _ => none)
  | .region as, _, c => (match strip c with
    | .region _ ops false => if chkSlots sl (tmsOf as ops.toList) N && chkOpers P fm sl (tmsOf as ops.toList) 0 as ops.toList then some (tmsOf as ops.toList) else none
    | _ => none)
  | .draw as pairs _, _, c => (match strip c with
    | .region _ ops true => if chkSlots sl (tmsOf as ops.toList) N && chkOpers P fm sl (tmsOf as ops.toList) 0 as ops.toList && chkDraw as ops.toList pairs then some (tmsOf as ops.toList) else none
    | _ => none)
  | .ghost _, _, _ => none
  | .seq a b, tms, c => (match b with
    | .ghost is => (match chkC P fm sl N a tms c with
      | some t => if is.all fun i => decide (i < sl.length) then some t else none
      | none => none)
    | _ => (match strip c with
      | .seq c d => (match chkC P fm sl N a tms c with
        | some t => chkC P fm sl N b t d
        | none => none)
      | _ => none))
  | .cond x a b, tms, c => (match strip c with
    | .cond y c d => if chkO fm sl tms x y && (chkC P fm sl N a tms c).isSome && (chkC P fm sl N b tms d).isSome then some [] else none
    | _ => none)
  | .block id a, tms, c => (match strip c with
    | .block id' c => if id == id' && (chkC P fm sl N a tms c).isSome then some [] else none
    | _ => none)
  | .loop _ a, _, c => (match strip c with
    | .loop c => if (chkC P fm sl N a [] c).isSome then some [] else none
    | _ => none)
  | .exit i, _, c => (match strip c with | .exit j => if i == j then some [] else none | _ => none)
  | .ret, _, c => (match strip c with | .ret => some [] | _ => none)

def toExit : AExit → Exit
  | .normal => .normal
  | .exit i => .exit i
  | .ret => .ret

section
variable {P : Program} {fm : Nat → Nat} {sl : List Nat} {N : Nat}

def Post (fm : Nat → Nat) (sl : List Nat) (N : Nat) (E : Entry) (e : AExit) (st : St) (tms : List (Option Nat)) (Q : Exit → Act → World → Prop) : Prop :=
  ∀ a w, Live fm sl N E st (if e = .normal then tms else []) a w → Q (toExit e) a w

theorem Live.nil {E : Entry} {st : St} {tms : List (Option Nat)} {a : Act} {w : World} (h : Live fm sl N E st tms a w) : Live fm sl N E st [] a w := by
  obtain ⟨F, ms, X, cx, rest⟩ := h
  exact ⟨F, ms, X, ⟨cx.rel, cx.one, cx.fok, ⟨cx.fr.vars, fun i s h => by simp at h⟩⟩, rest⟩

def LoopOK (P : Program) (fm : Nat → Nat) (n : Nat) (loopF : List Nat → ACode → St → Option (AExit × St)) : Prop :=
  ∀ (sl : List Nat) (N : Nat) (E : Entry) (live : List Nat) (body : ACode) (c : Code) (st st' : St) (e : AExit) (a : Act) (w : World) (Q : Exit → Act → World → Prop), (chkC P fm sl N body [] c).isSome = true → loopF live body st = some (e, st') →
    Live fm sl N E st [] a w → Post fm sl N E e st' [] Q → Code.rounds P c Q n a w

theorem wp_strip : ∀ {c : Code} {Q : Exit → Act → World → Prop} {a : Act} {w : World}, (strip c).wp P (Exit.noGoto Q) a w → c.wp P (Exit.noGoto Q) a w
  | .scope c, Q, a, w, h => by
    simp only [strip] at h
    have h1 := wp_strip h
    refine wp_scope_straight (wp_mono h1 fun e a w h => ?_)
    cases e <;> first | exact h | exact h.elim
  | .skip, _, _, _, h => h
  | .region .., _, _, _, h => h
  | .seq .., _, _, _, h => h
  | .cond .., _, _, _, h => h
  | .block .., _, _, _, h => h
  | .loop .., _, _, _, h => h
  | .rangeFunc .., _, _, _, h => h
  | .exit .., _, _, _, h => h
  | .label .., _, _, _, h => h
  | .goto .., _, _, _, h => h
  | .ret, _, _, _, h => h
  | .refuse .., _, _, _, h => h

theorem wp_strip' {c : Code} {Q : Exit → Act → World → Prop} {a : Act} {w : World} (h : (strip c).wp P (Exit.noGoto Q) a w) : c.wp P Q a w :=
  wp_mono (wp_strip h) fun e a w h => by cases e <;> first | exact h | exact h.elim

theorem Post.noGoto {E : Entry} {e : AExit} {st : St} {tms : List (Option Nat)} {Q : Exit → Act → World → Prop} (h : Post fm sl N E e st tms Q) : Post fm sl N E e st tms (Exit.noGoto Q) := fun a w hl => by
  have := h a w hl
  cases e <;> exact this

theorem evalC_ok (hm : P.follows .mixedOrders = true) {callF : CallF} {loopF : List Nat → ACode → St → Option (AExit × St)} (hcall : CallOK P fm callF) {n : Nat} (hloop : LoopOK P fm n loopF) {E : Entry} :
    ∀ (ac : ACode) {tms tms' : List (Option Nat)} {c : Code} {st st' : St} {e : AExit} {a : Act} {w : World} {Q : Exit → Act → World → Prop}, chkC P fm sl N ac tms c = some tms' → evalC callF loopF ac st = some (e, st') → Live fm sl N E st tms a w → Post fm sl N E e st' tms' Q → c.wp P Q a w
  | .skip, tms, tms', c, st, st', e, a, w, Q, hc, h, hl, hQ => by
    refine wp_strip' ?_
    have hQ := hQ.noGoto
    simp only [chkC] at hc
    simp only [evalC, Option.some.injEq, Prod.mk.injEq] at h
    obtain ⟨rfl, rfl⟩ := h
    split at hc
    · rename_i hs
      simp only [Option.some.injEq] at hc
      subst hc
      rw [hs]; exact wp_skip (hQ a w hl)
    · rename_i hs
      simp only [Option.some.injEq] at hc
      subst hc
      rw [hs]; exact wp_label (hQ a w hl)
    · simp at hc
  | .region as, tms, tms', c, st, st', e, a, w, Q, hc, h, hl, hQ => by
    refine wp_strip' ?_
    have hQ := hQ.noGoto
    simp only [chkC] at hc
    split at hc
    case h_2 => simp at hc
    rename_i id ops hs
    rw [hs]
    split at hc
    case isFalse => simp at hc
    rename_i hk
    simp only [Bool.and_eq_true] at hk
    simp only [Option.some.injEq] at hc
    subst hc
    simp only [evalC] at h
    obtain ⟨s1, h1, h2⟩ := map_some h
    simp only [Prod.mk.injEq] at h2
    obtain ⟨rfl, rfl⟩ := h2
    exact region_ok hcall hk.1 hk.2 hl h1 fun a' w' hl' => hQ a' w' hl'
  | .draw as pairs ks, tms, tms', c, st, st', e, a, w, Q, hc, h, hl, hQ => by
    refine wp_strip' ?_
    have hQ := hQ.noGoto
    simp only [chkC] at hc
    split at hc
    case h_2 => simp at hc
    rename_i id ops hs
    rw [hs]
    split at hc
    case isFalse => simp at hc
    rename_i hk
    simp only [Bool.and_eq_true] at hk
    simp only [Option.some.injEq] at hc
    subst hc
    simp only [evalC] at h
    obtain ⟨s1, h1, h2⟩ := map_some h
    simp only [Prod.mk.injEq] at h2
    obtain ⟨rfl, rfl⟩ := h2
    exact draw_ok hm hcall hk.1.1 hk.1.2 hk.2 hl h1 fun a' w' hl' => hQ a' w' hl'
  | .ghost is, tms, tms', c, st, st', e, a, w, Q, hc, h, hl, hQ => by simp [chkC] at hc
  | .seq x y, tms, tms', c, st, st', e, a, w, Q, hc, h, hl, hQ => by
    simp only [chkC] at hc
    simp only [evalC] at h
    split at hc
    · rename_i is
      split at hc
      case h_2 => simp at hc
      rename_i t ht
      split at hc
      case isFalse => simp at hc
      rename_i his
      simp only [Option.some.injEq] at hc
      subst hc
      split at h
      · rename_i s1 h1
        simp only [evalC] at h
        obtain ⟨s2, h3, h4⟩ := map_some h
        simp only [Prod.mk.injEq] at h4
        obtain ⟨rfl, rfl⟩ := h4
        exact evalC_ok hm hcall hloop x ht h1 hl fun a' w' hl' => hQ a' w' (shareVars_ok his hl' h3)
      · rename_i hne
        have he : e ≠ .normal := fun e0 => by subst e0; exact hne _ h
        refine evalC_ok hm hcall hloop x ht h hl fun a' w' hl' => hQ a' w' ?_
        rw [if_neg he] at hl' ⊢
        exact hl'
    · refine wp_strip' ?_
      have hQ := hQ.noGoto
      split at hc
      case h_2 => simp at hc
      rename_i c1 c2 hs
      rw [hs]
      split at hc
      case h_2 => simp at hc
      rename_i t ht
      refine wp_seq ?_
      split at h
      · rename_i s1 h1
        exact evalC_ok hm hcall hloop x ht h1 hl fun a' w' hl' => evalC_ok hm hcall hloop y hc h hl' hQ
      · rename_i hne
        have he : e ≠ .normal := fun e0 => by subst e0; exact hne _ h
        refine evalC_ok hm hcall hloop x ht h hl fun a' w' hl' => ?_
        have := hQ a' w' (by rw [if_neg he] at hl' ⊢; exact hl')
        cases e <;> first | exact absurd rfl he | exact this
  | .cond x y z, tms, tms', c, st, st', e, a, w, Q, hc, h, hl, hQ => by
    refine wp_strip' ?_
    have hQ := hQ.noGoto
    simp only [chkC] at hc
    split at hc
    case h_2 => simp at hc
    rename_i x' c1 c2 hs
    rw [hs]
    split at hc
    case isFalse => simp at hc
    rename_i hk
    simp only [Bool.and_eq_true] at hk
    obtain ⟨⟨hx, h1⟩, h2⟩ := hk
    simp only [Option.some.injEq] at hc
    subst hc
    obtain ⟨t1, h1⟩ := Option.isSome_iff_exists.1 h1
    obtain ⟨t2, h2⟩ := Option.isSome_iff_exists.1 h2
    have hv : ∃ F L, Rel w F fm L (opd st.vars st.ts x) (a.eval x') (fun _ => 0) := by
      obtain ⟨F, ms, X, cx, _⟩ := id hl
      exact ⟨F, _, cx.opd hx⟩
    obtain ⟨F, L, hv⟩ := hv
    have hweak : ∀ {t : List (Option Nat)} (a' : Act) (w' : World), Live fm sl N E st' (if e = .normal then t else []) a' w' → Exit.noGoto Q (toExit e) a' w' := fun {t} a' w' hl' => hQ a' w' (by
      by_cases he : e = .normal
      · rw [if_pos he]; exact hl'.nil
      · rw [if_neg he]; exact hl'.nil)
    simp only [evalC] at h
    split at h
    · rename_i hb
      rw [hb] at hv
      exact wp_cond_true hv.bool_inv (evalC_ok hm hcall hloop y h1 h hl hweak)
    · rename_i hb
      rw [hb] at hv
      exact wp_cond_false hv.bool_inv (evalC_ok hm hcall hloop z h2 h hl hweak)
    · simp at h
  | .block id x, tms, tms', c, st, st', e, a, w, Q, hc, h, hl, hQ => by
    refine wp_strip' ?_
    have hQ := hQ.noGoto
    simp only [chkC] at hc
    split at hc
    case h_2 => simp at hc
    rename_i id' c1 hs
    rw [hs]
    split at hc
    case isFalse => simp at hc
    rename_i hk
    simp only [Bool.and_eq_true, beq_iff_eq] at hk
    obtain ⟨rfl, h1⟩ := hk
    simp only [Option.some.injEq] at hc
    subst hc
    obtain ⟨t1, h1⟩ := Option.isSome_iff_exists.1 h1
    refine wp_block ?_
    simp only [evalC] at h
    split at h
    · rename_i id' s1 h2
      split at h
      · rename_i hid
        simp only [Option.some.injEq, Prod.mk.injEq] at h
        obtain ⟨rfl, rfl⟩ := h
        refine evalC_ok hm hcall hloop x h1 h2 hl fun a' w' hl' => ?_
        simp only [toExit, Exit.inBlock, hid, if_true]
        exact hQ a' w' (by simpa using hl')
      · rename_i hid
        simp only [Option.some.injEq, Prod.mk.injEq] at h
        obtain ⟨rfl, rfl⟩ := h
        refine evalC_ok hm hcall hloop x h1 h2 hl fun a' w' hl' => ?_
        simp only [toExit, Exit.inBlock, hid, if_false]
        exact hQ a' w' (by simpa using hl')
    · rename_i hne
      refine evalC_ok hm hcall hloop x h1 h hl fun a' w' hl' => ?_
      cases e with
      | exit i => exact absurd h (hne i st')
      | normal => exact hQ a' w' hl'.nil
      | ret => exact hQ a' w' hl'
  | .loop live x, tms, tms', c, st, st', e, a, w, Q, hc, h, hl, hQ => by
    refine wp_strip' ?_
    have hQ := hQ.noGoto
    simp only [chkC] at hc
    split at hc
    case h_2 => simp at hc
    rename_i c1 hs
    rw [hs]
    split at hc
    case isFalse => simp at hc
    rename_i h1
    simp only [Option.some.injEq] at hc
    subst hc
    simp only [evalC] at h
    exact wp_loop_rounds n (hloop sl N E live x c1 _ _ e a w (Exit.noGoto Q) h1 h (norm_ok hl) hQ)
  | .exit i, tms, tms', c, st, st', e, a, w, Q, hc, h, hl, hQ => by
    refine wp_strip' ?_
    have hQ := hQ.noGoto
    simp only [chkC] at hc
    split at hc
    case h_2 => simp at hc
    rename_i j hs
    rw [hs]
    split at hc
    case isFalse => simp at hc
    rename_i hij
    simp only [beq_iff_eq] at hij
    subst hij
    simp only [evalC, Option.some.injEq, Prod.mk.injEq] at h
    obtain ⟨rfl, rfl⟩ := h
    exact wp_exit (hQ a w (by simpa using hl.nil))
  | .ret, tms, tms', c, st, st', e, a, w, Q, hc, h, hl, hQ => by
    refine wp_strip' ?_
    have hQ := hQ.noGoto
    simp only [chkC] at hc
    split at hc
    case h_2 => simp at hc
    rename_i hs
    rw [hs]
    simp only [evalC, Option.some.injEq, Prod.mk.injEq] at h
    obtain ⟨rfl, rfl⟩ := h
    exact wp_ret (hQ a w (by simpa using hl.nil))
end
end Av
namespace Av
open Go

/-- A function of the table, against the program's. -/
def chkRes (P : Program) (slots : List Nat) : List ARes → List ResultVar → Bool
  | [], [] => true
  | .v i :: xs, .tmp t :: ys => slots[i]? == some t && chkRes P slots xs ys
  | .cell i agg k :: xs, .cell t ty :: ys => slots[i]? == some t && aggT P ty == some agg && sizeT P ty == some k && decide (0 < k) && chkRes P slots xs ys
  | _, _ => false

def chkFn (P : Program) (fm : Nat → Nat) (f : AFn) (fn : Func) : Bool :=
  fn.name != "runtime.NumGoroutine" && f.slots.take f.np == List.range f.np && decide (f.np ≤ f.slots.length) && chkRes P f.slots f.results fn.results.toList &&
  (match fn.body with | some c => (chkC P fm f.slots fn.ntmps f.body [] c).isSome | none => false)

def PrimOK (P : Program) (fm : Nat → Nat) (g : Nat) (p : List D → Rows → Option (D × Rows)) : Prop :=
  ∀ (args : List D) (rows : Rows) (res : D) (rows' : Rows), p args rows = some (res, rows') → ∀ (w : World) (F : FZ) (ms : Ms) (X Y : Cnt) (vs : List Value), RowsRel w F fm rows ms X → RelL w F fm (mkLoc w rows ms) args vs Y → (∀ b, X b + Y b ≤ 1) → FOK w F →
    ∀ (o : Oper) (a : Act) (K : Act → World → Prop) (Q : Exit → Act → World → Prop), (∀ v w', After fm w F rows ms (fun b => X b + Y b) res rows' v w' → K (a.put o.dst v) w') → o.upon P a K Q ((callFunc (fm g) vs.toArray).run P w)

def TabOK (P : Program) (fm : Nat → Nat) (T : Nat → Option Fun) : Prop :=
  ∀ g f, T g = some f → match f with
    | .code f => ∃ fn, P.funcs[fm g]? = some fn ∧ chkFn P fm f fn = true
    | .prim p => PrimOK P fm g p

section
variable {P : Program} {fm : Nat → Nat}

theorem rows_take {w : World} {F : FZ} : ∀ (n : Nat) {rows : Rows} {ms : Ms} {X : Cnt}, RowsRel w F fm rows ms X → ∃ X1, RowsRel w F fm (rows.take n) (ms.take n) X1 ∧ ∀ b, X1 b ≤ X b
  | 0, rows, ms, X, h => ⟨fun _ => 0, by simp only [List.take_zero]; unfold RowsRel; exact ⟨rfl, Zero.of_zero⟩, fun b => Nat.zero_le _⟩
  | n + 1, [], ms, X, h => by
    unfold RowsRel at h
    obtain ⟨rfl, hz⟩ := h
    exact ⟨X, by simp only [List.take_nil]; unfold RowsRel; exact ⟨rfl, hz⟩, fun b => Nat.le_refl _⟩
  | n + 1, r :: rows, ms, X, h => by
    unfold RowsRel at h
    obtain ⟨m, ms', X1, X2, rfl, h1, h2, hX⟩ := h
    obtain ⟨Y, h3, h4⟩ := rows_take n h2
    refine ⟨fun b => X1 b + Y b, ?_, fun b => by have := h4 b; have := hX b; show X1 b + Y b ≤ X b; omega⟩
    simp only [List.take_succ_cons]
    unfold RowsRel
    exact ⟨m, _, X1, Y, rfl, by cases r <;> exact h1, h3, fun _ => rfl⟩

def resF (tmps : Array Value) : ResultVar → Sem Value
  | .tmp t => pure (tmps.getD t undef)
  | .cell a t => do loadVar t (← asAddr (tmps.getD a undef))

theorem cell_res {w : World} {F : FZ} {rows rows' : Rows} {ms : Ms} {X : Cnt} {r ver k : Nat} {agg : Bool} {row : Row} {v : Value} {t : TypeId} {tmps : Array Value} {s : Nat} {d : D} (hr : rows[r]? = some (some row)) (hl : row.cells.length = k) (hk0 : 0 < k)
    (h : (if agg then some (rows.set r none, D.agg row.cells) else match row.cells with | [d] => some (rows.set r none, d) | _ => none) = some (rows', d))
    (ha : aggT P t = some agg) (hk : sizeT P t = some k) (hR : RowsRel w F fm rows ms X) (hF : FOK w F) (hv : tmps.getD s undef = v) (hd : Rel w F fm (mkLoc w rows ms) (.addr r [] ver 0) v (fun _ => 0)) :
    ∃ u X' Y', (resF tmps (.cell s t)).run P w = .ok u w ∧ RowsRel w F fm rows' ms X' ∧ Rel w F fm L0 d u Y' ∧ Ext w F (mkLoc w rows ms) X w F (mkLoc w rows' ms) (fun b => X' b + Y' b) ∧ FOK w F ∧ ∀ b, X' b + Y' b ≤ X b := by
  obtain ⟨m, X1, X2, hm, hvv, hat, hXs, hrest⟩ := hR.take hr
  obtain ⟨m1, m2⟩ := m
  unfold Rel at hd
  obtain ⟨_, _, _, a, hva, hloc⟩ := hd
  match m1, hat with
  | none, hat => rw [hat.1] at hl; simp at hl; omega
  | some (b, base), ⟨vs, Xc, ho, hb, hrl, hFb, hX1⟩ =>
    have hat' := hloc b base (by simp [mkLoc, locAt, theRow_of hr, hm])
    subst hat' hva
    have hlen := hrl.length
    have hle := mkLoc_none hR r
    have hag : agg = false → k = 1 := fun e => by
      subst e
      simp only [Bool.false_eq_true, if_false] at h
      split at h
      · rename_i hcs; rw [hcs] at hl; simpa using hl.symm
      · simp at h
    have hrun : (resF tmps (.cell s t)).run P w = .ok (if agg then .agg vs.toArray else vs.headD undef) w := by
      simp only [resF, hv, asAddr, Sem.run_bind, Sem.run_pure, Result.andThen_ok, Nat.add_zero]
      exact run_loadVar ha hk (by omega) hag hb.cells
    have hrows : rows' = rows.set r none := by
      split at h
      · simp only [Option.some.injEq, Prod.mk.injEq] at h; exact h.1.symm
      · split at h
        · simp only [Option.some.injEq, Prod.mk.injEq] at h; exact h.1.symm
        · simp at h
    subst hrows
    refine ⟨_, X2, Xc, hrun, hrest, ?_, Ext.still (fun _ _ h => h) (fun _ _ h => .inl h) (fun c hc => by have := hXs c; have := hX1 c; omega) hle, hF, fun c => by have := hXs c; have := hX1 c; omega⟩
    cases agg with
    | true =>
      simp only [if_true, Option.some.injEq, Prod.mk.injEq] at h ⊢
      rw [← h.2]
      unfold Rel
      exact ⟨vs, rfl, hrl⟩
    | false =>
      simp only [Bool.false_eq_true, if_false] at h ⊢
      split at h
      · rename_i d' hcs
        simp only [Option.some.injEq, Prod.mk.injEq] at h
        rw [hcs] at hrl
        unfold RelL at hrl
        obtain ⟨u, vs', Z1, Z2, rfl, q1, q2, hZ⟩ := hrl
        unfold RelL at q2
        rw [← h.2]
        exact q1.congr fun b => by have h0 : Z2 b = 0 := q2.2 b; have := hZ b; omega
      · simp at h

theorem resVs_ok {w : World} {slots : List Nat} {tmps : Array Value} {vars : List D} : ∀ {l : List ARes} {rs : List ResultVar} {F : FZ} {rows rows' : Rows} {ms : Ms} {X : Cnt} {ds : List D}, chkRes P slots l rs = true → resVs vars rows l = some (rows', ds) →
    RowsRel w F fm rows ms X → (∀ b, X b ≤ 1) → FOK w F → (∀ (k s : Nat), slots[k]? = some s → Rel w F fm (mkLoc w rows ms) (vars.getD k .undef) (tmps.getD s undef) (fun _ => 0)) →
    ∃ us F' ms' X' Y', (rs.mapM (resF tmps)).run P w = .ok us w ∧ RowsRel w F' fm rows' ms' X' ∧ RelL w F' fm L0 ds us Y' ∧ Ext w F (mkLoc w rows ms) X w F' (mkLoc w rows' ms') (fun b => X' b + Y' b) ∧ FOK w F' ∧ ∀ b, X' b + Y' b ≤ X b
  | [], [], F, rows, rows', ms, X, ds, _, h, hR, hX, hF, hv => by
    simp only [resVs, Option.some.injEq, Prod.mk.injEq] at h
    obtain ⟨rfl, rfl⟩ := h
    exact ⟨[], F, ms, X, fun _ => 0, rfl, hR, RelL.nil, Ext.refl _ _ _ _, hF, fun b => Nat.le_refl _⟩
  | x :: xs, y :: ys, F, rows, rows', ms, X, ds, hc, h, hR, hX, hF, hv => by
    simp only [resVs] at h
    split at h
    · simp at h
    rename_i rows1 d1 h1
    split at h
    · simp at h
    rename_i rows2 ds2 h2
    simp only [Option.some.injEq, Prod.mk.injEq] at h
    obtain ⟨rfl, rfl⟩ := h
    have head : chkRes P slots xs ys = true ∧ ∃ u F1 ms1 X1 Y1, (resF tmps y).run P w = .ok u w ∧ RowsRel w F1 fm rows1 ms1 X1 ∧ Rel w F1 fm L0 d1 u Y1 ∧ Ext w F (mkLoc w rows ms) X w F1 (mkLoc w rows1 ms1) (fun b => X1 b + Y1 b) ∧ FOK w F1 ∧ ∀ b, X1 b + Y1 b ≤ X b := by
      cases x with
      | v i =>
        cases y with
        | cell => simp [chkRes] at hc
        | tmp t =>
          simp only [chkRes, Bool.and_eq_true, beq_iff_eq] at hc
          simp only [resV] at h1
          obtain ⟨F1, ms1, X1, Y1, q1, q2, q3, _, q5, q6⟩ := giveV_ok _ h1 hR (hv i t hc.1) (fun b => by have := hX b; omega) hF
          exact ⟨hc.2, _, F1, ms1, X1, Y1, rfl, q1, q2, q3.add0, q5, fun b => by have := q6 b; omega⟩
      | cell i agg k =>
        cases y with
        | tmp => simp [chkRes] at hc
        | cell s t =>
          simp only [chkRes, Bool.and_eq_true, beq_iff_eq, decide_eq_true_eq] at hc
          obtain ⟨⟨⟨⟨hs, ha⟩, hk⟩, hk0⟩, hc⟩ := hc
          refine ⟨hc, ?_⟩
          simp only [resV] at h1
          have hvi := hv i s hs
          split at h1
          case h_2 => simp at h1
          rename_i r ver hd
          rw [hd] at hvi
          split at h1
          case h_2 => simp at h1
          rename_i row hrow
          split at h1
          case isFalse => simp at h1
          rename_i hlp
          obtain ⟨u, X1, Y1, q1, q2, q3, q4, q5, q6⟩ := cell_res (P := P) (theRow_eq hrow) hlp.1 hk0 h1 ha hk hR hF rfl hvi
          exact ⟨u, F, ms, X1, Y1, q1, q2, q3, q4, q5, q6⟩
    obtain ⟨hc', u, F1, ms1, X1, Y1, q1, q2, q3, q4, q5, q6⟩ := head
    obtain ⟨us, F2, ms2, X2, Y2, p1, p2, p3, p4, p5, p6⟩ := resVs_ok hc' h2 q2 (fun b => by have := hX b; have := q6 b; omega) q5 fun k s hs => q4.rel (hv k s hs)
    have hk : Keep w F1 w F2 Y1 := p4.keep fun b hb => ⟨by have := hX b; have := q6 b; omega, q3.lt hb⟩
    refine ⟨u :: us, F2, ms2, X2, fun b => Y1 b + Y2 b, ?_, p2, RelL.cons (q3.keep hk (LocLe.refl _)) p3, ?_, p5, fun b => by have := q6 b; have := p6 b; show X2 b + (Y1 b + Y2 b) ≤ X b; omega⟩
    · rw [List.mapM_cons]
      simp only [Sem.run_bind, q1, Result.andThen_ok, p1, Sem.run_pure]
    · have p4' := p4.count (Y := fun b => X1 b + Y1 b) (Y' := fun b => X2 b + (Y1 b + Y2 b)) (fun b hb => by omega) (fun b hb => by omega)
      exact q4.trans p4'
  | [], _ :: _, _, _, _, _, _, _, h, _, _, _, _, _ => by simp [chkRes] at h
  | x :: _, [], _, _, _, _, _, _, h, _, _, _, _, _ => by cases x <;> simp [chkRes] at h

def resOf : List Value → Value
  | [v] => v
  | l => .tuple l.toArray

theorem run_results {w : World} {tmps : Array Value} {fn : Func} {us : List Value} (h : (fn.results.toList.mapM (resF tmps)).run P w = .ok us w) : (Go.results fn tmps).run P w = .ok (resOf us) w := by
  have e : Go.results fn tmps = (do let vs ← fn.results.mapM (resF tmps); pure (if h : vs.size = 1 then vs[0] else .tuple vs)) := by
    unfold Go.results
    congr 2
  rw [e]
  generalize fn.results = rs at h ⊢
  obtain ⟨rs⟩ := rs
  rw [List.mapM_toArray]
  simp only [Sem.run_bind, Sem.run_map]
  rw [h]
  simp only [Result.andThen_ok, Sem.run_pure]
  congr 1
  match us with
  | [] => rfl
  | [v] => rfl
  | v :: u :: us => simp [resOf]

theorem callBody_ok (hm : P.follows .mixedOrders = true) {callF : CallF} {loopF : List Nat → ACode → St → Option (AExit × St)} (hcall : CallOK P fm callF) {n : Nat} (hloop : LoopOK P fm n loopF) {g : Nat} {f : AFn} {fn : Func} (hfn : P.funcs[fm g]? = some fn) (hc : chkFn P fm f fn = true)
    {args : List D} {rows rows' : Rows} {res : D} (h : callBody callF loopF f args rows = some (res, rows')) {w : World} {F : FZ} {ms : Ms} {X Y : Cnt} {vs : List Value} (hR : RowsRel w F fm rows ms X) (ha : RelL w F fm (mkLoc w rows ms) args vs Y) (hX : ∀ b, X b + Y b ≤ 1) (hF : FOK w F) :
    Calls P (fm g) vs.toArray w fun e w' => ∃ v, e = .returned v ∧ After fm w F rows ms (fun b => X b + Y b) res rows' v w' := by
  simp only [chkFn, Bool.and_eq_true, decide_eq_true_eq, beq_iff_eq] at hc
  obtain ⟨⟨⟨⟨hname, hpar⟩, hnp⟩, hres⟩, hbody⟩ := hc
  split at hbody
  case h_2 => simp at hbody
  rename_i c hb
  obtain ⟨tms', hchk⟩ := Option.isSome_iff_exists.1 hbody
  unfold callBody at h
  split at h
  case isFalse => simp at h
  rename_i hlen
  simp only at h
  obtain ⟨ms1, X1, h1, h2, h3, h4, h5⟩ := adoptVs_ok args hR ha hX hF
  generalize adoptVs rows args = ad at h h1 h2 h3
  obtain ⟨rows1, args1⟩ := ad
  simp only at h h1 h2 h3
  have hl1 := h2.length
  have hl0 := ha.length
  refine calls_of_wp hfn hb ?_
  have hpar' : ∀ k s, f.slots[k]? = some s → k < f.np → s = k := fun k s hk hlt => by
    have : (f.slots.take f.np)[k]? = some s := by rw [List.getElem?_take_of_lt hlt]; exact hk
    rw [hpar] at this
    simp [hlt] at this
    exact this.symm
  have live : Live fm f.slots fn.ntmps ⟨w, F, mkLoc w rows ms, fun b => X b + Y b⟩ { vars := args1 ++ List.replicate (f.slots.length - f.np) .undef, ts := [], rows := rows1, base := rows.length } []
      { tmps := vs.toArray ++ Array.replicate (fn.ntmps - vs.toArray.size) undef, defers := [] } w := by
    refine ⟨F, ms1, X1, ⟨h1, fun b => by rw [h5]; exact hX b, hF, ⟨fun k s hk => ?_, fun i s hi => by simp at hi⟩⟩, Ext.still (fun _ _ h => h) (fun _ _ h => .inl h) (fun b hb => by rw [h5] at hb; exact hb) h3, by simp; omega, rfl, fun r => Iff.rfl⟩
    simp only
    by_cases hlt : k < f.np
    · have := hpar' k s hk hlt
      subst this
      have hk1 : s < args1.length := by omega
      have hk2 : s < vs.length := by omega
      have e1 : (args1 ++ List.replicate (f.slots.length - f.np) D.undef).getD s .undef = args1.getD s .undef := by simp [List.getD, List.getElem?_append_left hk1]
      have e2 : slotV { tmps := vs.toArray ++ Array.replicate (fn.ntmps - vs.toArray.size) undef, defers := [] } s = vs[s] := by
        simp [slotV, Array.getElem?_append, hk2]
      rw [e1, e2]
      exact h2.getD (List.getElem?_eq_getElem hk2)
    · have hk1 : args1.length ≤ k := by omega
      have e1 : (args1 ++ List.replicate (f.slots.length - f.np) D.undef).getD k .undef = .undef := by
        simp only [List.getD, List.getElem?_append_right hk1, List.getElem?_replicate]
        split <;> rfl
      rw [e1]
      exact Rel.undef0
  split at h
  · simp at h
  · rename_i e st hne hev
    obtain ⟨⟨rs, d⟩, hrs, he⟩ := map_some h
    simp only [Prod.mk.injEq] at he
    obtain ⟨rfl, rfl⟩ := he
    have fin : ∀ (t : List (Option Nat)) (a' : Act) (w' : World), Live fm f.slots fn.ntmps ⟨w, F, mkLoc w rows ms, fun b => X b + Y b⟩ st t a' w' →
        a'.defers = [] ∧ ∃ v, (Go.results fn a'.tmps).run P w' = .ok v w' ∧ (∃ u, Ending.returned v = .returned u ∧ After fm w F rows ms (fun b => X b + Y b) d (rs.take rows.length) u w') := fun t a' w' hl => by
      have hbl := hl.base_le
      obtain ⟨F2, ms2, X2, cx, ext, _, hdf, hb2⟩ := hl
      refine ⟨hdf, ?_⟩
      have hbase : st.base = rows.length := by
        have e1 : ∀ r, r < rows.length ↔ r < st.base := hb2
        have a1 := e1 st.base
        have a2 := e1 rows.length
        omega
      unfold results at hrs
      have hvars : ∀ (k s : Nat), f.slots[k]? = some s → Rel w' F2 fm (mkLoc w' st.rows ms2) (st.vars.getD k .undef) (a'.tmps.getD s undef) (fun _ => 0) := cx.fr.vars
      have fin2 : ∀ (rows3 : Rows) (d3 : D) (F3 : FZ) (ms3 : Ms) (X3 Y3 : Cnt) (u : Value), RowsRel w' F3 fm rows3 ms3 X3 → Rel w' F3 fm L0 d3 u Y3 → Ext w' F2 (mkLoc w' st.rows ms2) X2 w' F3 (mkLoc w' rows3 ms3) (fun b => X3 b + Y3 b) → FOK w' F3 → (∀ b, X3 b + Y3 b ≤ X2 b) →
          After fm w F rows ms (fun b => X b + Y b) d3 (rows3.take rows.length) u w' := fun rows3 d3 F3 ms3 X3 Y3 u q1 q2 q3 q4 q5 => by
        obtain ⟨X4, t1, t2⟩ := rows_take rows.length q1
        have hml := q1.length
        have hext := ext.trans q3
        refine ⟨F3, ms3.take rows.length, X4, Y3, t1, q2, fun b => by have := t2 b; have := q5 b; have := cx.one b; omega, q4, ?_⟩
        have hlen3 : ∀ r, r < rows.length → r < rows3.length := fun r hr => hext.loc.1 r hr
        have hle : LocLe (mkLoc w rows ms) (mkLoc w' (rows3.take rows.length) (ms3.take rows.length)) := by
          have h1 : LocMap (fun r => r) ((mkLoc w' rows3 ms3).on (· < rows.length)) (mkLoc w' (rows3.take rows.length) (ms3.take rows.length)) := locMap_of_eq fun r hr hS =>
            ⟨by rw [List.length_take]; omega, (List.getElem?_take_of_lt hS).symm, (List.getElem?_take_of_lt hS).symm⟩
          have h2 : LocMap (fun r => r) (mkLoc w rows ms) ((mkLoc w' rows3 ms3).on (· < rows.length)) := fun r hr => by
            obtain ⟨g1, g2, g3⟩ := hext.loc.map r hr
            exact ⟨⟨g1, hr⟩, g2, g3⟩
          exact (h2.trans h1).le fun _ _ => rfl
        exact { hext with own := fun b hb => hext.own b (by have := t2 b; omega), loc := hle }
      split at hrs
      · simp at hrs
      · rename_i rows3 d3 hg
        simp only [Option.some.injEq, Prod.mk.injEq] at hrs
        obtain ⟨rfl, rfl⟩ := hrs
        obtain ⟨us, F3, ms3, X3, Y3, q0, q1, q2, q3, q4, q5⟩ := resVs_ok hres hg cx.rel cx.one cx.fok hvars
        unfold RelL at q2
        obtain ⟨v, vs', Z1, Z2, rfl, r1, r2, hZ⟩ := q2
        unfold RelL at r2
        obtain ⟨rfl, hz2⟩ := r2
        have hY : ∀ b, Y3 b = Z1 b := fun b => by have := hZ b; have h0 : Z2 b = 0 := hz2 b; omega
        exact ⟨_, run_results q0, _, rfl, fin2 rows3 d3 F3 ms3 X3 Y3 v q1 (r1.congr hY) q3 q4 q5⟩
      · rename_i rows3 ds3 hne hg
        simp only [Option.some.injEq, Prod.mk.injEq] at hrs
        obtain ⟨rfl, rfl⟩ := hrs
        obtain ⟨us, F3, ms3, X3, Y3, q0, q1, q2, q3, q4, q5⟩ := resVs_ok hres hg cx.rel cx.one cx.fok hvars
        refine ⟨_, run_results q0, _, rfl, fin2 rows3 (.tup ds3) F3 ms3 X3 Y3 _ q1 ?_ q3 q4 q5⟩
        have hlr := q2.length
        unfold Rel
        refine ⟨us, ?_, q2⟩
        match us, hlr with
        | [], _ => rfl
        | [u], hlr =>
          exfalso
          match ds3, hlr with
          | [d], _ => first | exact hne d hg | exact hne d rfl
        | _ :: _ :: _, _ => rfl
    refine evalC_ok hm hcall hloop f.body hchk hev live fun a' w' hl => ?_
    cases e with
    | normal => exact fin _ a' w' hl
    | ret => exact fin _ a' w' hl
    | exit i => exact absurd rfl (hne i)
  · simp at h

theorem enter_run {g : Nat} {fn : Func} {vs : Array Value} {w : World} (hfn : P.funcs[g]? = some fn) (hname : (fn.name != "runtime.NumGoroutine") = true) (hb : fn.body.isSome = true) : (callFunc g vs).run P w = .ok (.enter g vs) w := by
  have h1 : ¬ fn.name = "runtime.NumGoroutine" := by simpa using hname
  have h2 : ¬ fn.body = none := fun h => by rw [h] at hb; simp at hb
  simp [callFunc, hfn, h1, h2]

theorem loops_ok (hm : P.follows .mixedOrders = true) {T : Nat → Option Fun} (hT : TabOK P fm T) : ∀ k, CallOK P fm (callK T k) ∧ LoopOK P fm k (loopK T k)
  | 0 => ⟨fun g args rows res rows' h => by simp [callK] at h, fun sl N E live body c st st' e a w Q _ h => by simp [loopK] at h⟩
  | k + 1 => by
    obtain ⟨ih1, ih2⟩ := loops_ok hm hT k
    refine ⟨fun g args rows res rows' h w F ms X Y vs hR ha hX hF o a K Q hK => ?_, fun sl N E live body c st st' e a w Q hc h hl hQ => ?_⟩
    · simp only [callK] at h
      split at h
      · rename_i f hf
        obtain ⟨fn, hfn, hchk⟩ := hT g _ hf
        have hchk' := hchk
        simp only [chkFn, Bool.and_eq_true] at hchk'
        obtain ⟨⟨⟨⟨hname, _⟩, _⟩, _⟩, hbody⟩ := hchk'
        have hb : fn.body.isSome = true := by cases hb : fn.body with
          | none => rw [hb] at hbody; simp at hbody
          | some c => rfl
        rw [enter_run hfn hname hb, Oper.upon_enter]
        refine Calls.mono (callBody_ok hm ih1 ih2 hfn hchk h hR ha hX hF) fun e' w' he => ?_
        obtain ⟨v, rfl, hA⟩ := he
        exact hK v w' hA
      · rename_i p hp
        exact hT g _ hp args rows res rows' h w F ms X Y vs hR ha hX hF o a K Q hK
      · simp at h
    · simp only [loopK] at h
      obtain ⟨t, hc'⟩ := Option.isSome_iff_exists.1 hc
      split at h
      · rename_i s1 h1
        rw [rounds_succ]
        exact evalC_ok hm ih1 ih2 body hc' h1 hl fun a' w' hl' => ih2 sl N E live body c _ st' e a' w' Q hc h (norm_ok hl') hQ
      · rename_i hne
        have he : e ≠ .normal := fun e0 => by subst e0; exact hne _ h
        rw [rounds_succ]
        refine evalC_ok hm ih1 ih2 body hc' h hl fun a' w' hl' => ?_
        have := hQ a' w' (by rw [if_neg he] at hl' ⊢; exact hl')
        cases e <;> first | exact absurd rfl he | exact this

/-- What a call comes to. -/
theorem call_ok (hm : P.follows .mixedOrders = true) {T : Nat → Option Fun} (hT : TabOK P fm T) {k g : Nat} {f : AFn} (hf : T g = some (.code f)) {args : List D} {rows rows' : Rows} {res : D} (h : callK T k g args rows = some (res, rows'))
    {w : World} {F : FZ} {ms : Ms} {X Y : Cnt} {vs : List Value} (hR : RowsRel w F fm rows ms X) (ha : RelL w F fm (mkLoc w rows ms) args vs Y) (hX : ∀ b, X b + Y b ≤ 1) (hF : FOK w F) :
    Calls P (fm g) vs.toArray w fun e w' => ∃ v, e = .returned v ∧ After fm w F rows ms (fun b => X b + Y b) res rows' v w' := by
  cases k with
  | zero => simp [callK] at h
  | succ k =>
    simp only [callK, hf] at h
    obtain ⟨fn, hfn, hchk⟩ := hT g _ hf
    obtain ⟨ih1, ih2⟩ := loops_ok hm hT k
    exact callBody_ok hm ih1 ih2 hfn hchk h hR ha hX hF
end
end Av

/- A part of the proof: WorldsVisits: for every input the law returns true and the argument reads behind the call as it read before. Conditions: none. -/
import Derived.Test.YtndbkcpofkdbiaaWv9
import Derived.Test.YtndbkcpofkdbiaaWv5
set_option linter.all false
namespace Av
open Go
set_option linter.unusedSimpArgs false
set_option linter.unusedVariables false
theorem set_nextI {D R : List Int} {n i : Nat} {x : Int} (hD : D.length = n) (hi : i < n) (hx : x = D.getD i 0) : (D.take i ++ List.replicate (n - i) 0).set i x = D.take (i + 1) ++ List.replicate (n - (i + 1)) 0 := by
  have h1 : (D.take i).length = i := by rw [List.length_take]; omega
  have h2 : List.replicate (n - i) (0 : Int) = 0 :: List.replicate (n - (i + 1)) 0 := by rw [show n - i = (n - (i + 1)) + 1 by omega]; rfl
  have e : D.take (i + 1) = D.take i ++ [D.getD i 0] := by rw [List.take_add_one]; simp [show i < D.length by omega]
  rw [List.set_append_right _ _ (by omega), h1, Nat.sub_self, h2, List.set_cons_zero, e, hx, List.append_assoc]
  rfl
theorem wAt_getD (ks : List Nat) (n i : Nat) (hi : i < ks.length) : (wAt ks n).getD i 0 = chI (ks.getD i 0) (n / cnt (ks.drop (i + 1)) % (ks.getD i 0 + 1)) := by
  have h := wAt_drop ks n i
  rw [drop_get ks i hi, wAt] at h
  have h2 : (wAt ks n).getD i 0 = ((wAt ks n).drop i).getD 0 0 := by simp [List.getD_eq_getElem?_getD]
  rw [h2, h]; rfl
theorem cnt_take_drop (ks : List Nat) (j : Nat) : cnt ks = cnt (ks.take j) * cnt (ks.drop j) := by rw [← cnt_append, List.take_append_drop]
theorem take_wAt : ∀ (ks : List Nat) (j n n' : Nat), n / cnt (ks.drop j) = n' / cnt (ks.drop j) → (wAt ks n).take j = (wAt ks n').take j
  | _, 0, _, _, _ => rfl
  | [], j + 1, _, _, _ => rfl
  | k :: ks, j + 1, n, n', h => by
    rw [List.drop_succ_cons] at h
    have e : n / cnt ks = n' / cnt ks := by
      rw [cnt_take_drop ks j, Nat.mul_comm, ← Nat.div_div_eq_div_mul, ← Nat.div_div_eq_div_mul, h]
    rw [wAt, wAt, List.take_succ_cons, List.take_succ_cons, e, take_wAt ks j n n' h]
/-- One step in the order of the worlds. -/
theorem wAt_next (ks : List Nat) (n j : Nat) (hj : j < ks.length) (h0 : (n + 1) % cnt (ks.drop (j + 1)) = 0) (hd : n / cnt (ks.drop (j + 1)) % (ks.getD j 0 + 1) ≠ ks.getD j 0) :
    (wAt ks n).take j ++ chI (ks.getD j 0) (n / cnt (ks.drop (j + 1)) % (ks.getD j 0 + 1) + 1) :: wAt (ks.drop (j + 1)) 0 = wAt ks (n + 1) := by
  have hc := cnt_pos (ks.drop (j + 1))
  have hcd : cnt (ks.drop j) = (ks.getD j 0 + 1) * cnt (ks.drop (j + 1)) := by rw [drop_get ks j hj, cnt]
  obtain ⟨t, ht⟩ : ∃ t, n + 1 = cnt (ks.drop (j + 1)) * t := by
    have := Nat.div_add_mod (n + 1) (cnt (ks.drop (j + 1)))
    exact ⟨(n + 1) / cnt (ks.drop (j + 1)), by omega⟩
  have h1 : n / cnt (ks.drop (j + 1)) + 1 = t := by
    have ht0 : t ≠ 0 := by intro h; subst h; omega
    obtain ⟨s, rfl⟩ := Nat.exists_eq_succ_of_ne_zero ht0
    rw [Nat.mul_succ] at ht
    have e : n = (cnt (ks.drop (j + 1)) - 1) + cnt (ks.drop (j + 1)) * s := by omega
    rw [e, Nat.add_mul_div_left _ _ hc, Nat.div_eq_of_lt (by omega), Nat.zero_add]
  have e2 : (n + 1) / cnt (ks.drop (j + 1)) = t := by rw [ht, Nat.mul_div_cancel_left _ hc]
  have hml := Nat.mod_lt (n / cnt (ks.drop (j + 1))) (show 0 < ks.getD j 0 + 1 by omega)
  have e3 : t % (ks.getD j 0 + 1) = n / cnt (ks.drop (j + 1)) % (ks.getD j 0 + 1) + 1 := by
    rw [← h1, Nat.add_mod]
    have : 1 % (ks.getD j 0 + 1) = 1 ∨ ks.getD j 0 = 0 := by
      rcases Nat.eq_zero_or_pos (ks.getD j 0) with h | h
      · exact .inr h
      · exact .inl (Nat.mod_eq_of_lt (by omega))
    rcases this with h | h
    · rw [h, Nat.mod_eq_of_lt (by omega)]
    · omega
  have e4 : t / (ks.getD j 0 + 1) = n / cnt (ks.drop (j + 1)) / (ks.getD j 0 + 1) := by
    rw [← h1]
    have a1 := Nat.div_add_mod (n / cnt (ks.drop (j + 1))) (ks.getD j 0 + 1)
    generalize n / cnt (ks.drop (j + 1)) = x at *
    have e : x + 1 = (x % (ks.getD j 0 + 1) + 1) + (ks.getD j 0 + 1) * (x / (ks.getD j 0 + 1)) := by omega
    rw [e, Nat.add_mul_div_left _ _ (by omega), Nat.div_eq_of_lt (by omega), Nat.zero_add]
  have hA : n / cnt (ks.drop j) = (n + 1) / cnt (ks.drop j) := by
    rw [hcd, Nat.mul_comm, ← Nat.div_div_eq_div_mul, ← Nat.div_div_eq_div_mul, e2, e4]
  rw [take_wAt ks j n (n + 1) hA]
  have hB : wAt (ks.drop (j + 1)) 0 = wAt (ks.drop (j + 1)) (n + 1) := by
    have := wAt_add (ks.drop (j + 1)) 0 t
    rw [Nat.zero_add] at this
    rw [ht, this]
  rw [hB, ← e3, ← e2]
  have hC : chI (ks.getD j 0) ((n + 1) / cnt (ks.drop (j + 1)) % (ks.getD j 0 + 1)) :: wAt (ks.drop (j + 1)) (n + 1) = (wAt ks (n + 1)).drop j := by
    rw [wAt_drop, drop_get ks j hj, wAt]
  rw [hC, List.take_append_drop]
theorem next_zero (ks : List Nat) (n j : Nat) (hj : j < ks.length) (h0 : (n + 1) % cnt (ks.drop (j + 1)) = 0) (hd : n / cnt (ks.drop (j + 1)) % (ks.getD j 0 + 1) = ks.getD j 0) : (n + 1) % cnt (ks.drop j) = 0 := by
  have hc := cnt_pos (ks.drop (j + 1))
  have hcd : cnt (ks.drop j) = (ks.getD j 0 + 1) * cnt (ks.drop (j + 1)) := by rw [drop_get ks j hj, cnt]
  have a0 := Nat.div_add_mod n (cnt (ks.drop (j + 1)))
  have a1 := Nat.div_add_mod (n / cnt (ks.drop (j + 1))) (ks.getD j 0 + 1)
  have a2 := Nat.mod_lt n hc
  rw [hd] at a1
  have e1 : n % cnt (ks.drop (j + 1)) = cnt (ks.drop (j + 1)) - 1 := by
    rcases Nat.lt_or_ge (n % cnt (ks.drop (j + 1)) + 1) (cnt (ks.drop (j + 1))) with h | h
    · exfalso
      rw [Nat.add_mod] at h0
      have h1 : 1 % cnt (ks.drop (j + 1)) = 1 := Nat.mod_eq_of_lt (by omega)
      rw [h1, Nat.mod_eq_of_lt h] at h0
      omega
    · omega
  have e2 : n + 1 = cnt (ks.drop (j + 1)) * (n / cnt (ks.drop (j + 1)) + 1) := by rw [Nat.mul_add, Nat.mul_one]; omega
  have e3 : n / cnt (ks.drop (j + 1)) + 1 = (ks.getD j 0 + 1) * (n / cnt (ks.drop (j + 1)) / (ks.getD j 0 + 1) + 1) := by
    generalize n / cnt (ks.drop (j + 1)) = x at *
    rw [Nat.mul_add, Nat.mul_one]; omega
  rw [e2, e3, hcd, ← Nat.mul_assoc, Nat.mul_comm (cnt _)]
  exact Nat.mul_mod_right _ _
theorem last_digit (ks : List Nat) (n j : Nat) (hj : j < ks.length) (h : n + 1 = cnt ks) : n / cnt (ks.drop (j + 1)) % (ks.getD j 0 + 1) = ks.getD j 0 := by
  have hc := cnt_pos (ks.drop (j + 1))
  have hcd : cnt (ks.drop j) = (ks.getD j 0 + 1) * cnt (ks.drop (j + 1)) := by rw [drop_get ks j hj, cnt]
  have ht := cnt_take_drop ks j
  have hp := cnt_pos (ks.take j)
  rw [hcd] at ht
  obtain ⟨s, hs⟩ : ∃ s, cnt (ks.take j) = s + 1 := ⟨cnt (ks.take j) - 1, by omega⟩
  rw [hs] at ht
  generalize cnt (ks.drop (j + 1)) = c at *
  generalize ks.getD j 0 = k at *
  have e : n = (c - 1) + c * ((k + 1) * s + k) := by
    have e1 : (s + 1) * ((k + 1) * c) = c * ((k + 1) * s + k) + c := by
      rw [Nat.add_mul, Nat.one_mul, Nat.mul_add, Nat.add_mul k 1 c, Nat.one_mul]
      have e2 : s * (k * c + c) = c * ((k + 1) * s) := by rw [Nat.mul_comm c, Nat.mul_comm (k + 1), Nat.mul_assoc, Nat.add_mul k 1 c, Nat.one_mul]
      rw [e2, Nat.mul_comm k c]
      omega
    omega
  rw [e, Nat.add_mul_div_left _ _ hc, Nat.div_eq_of_lt (by omega), Nat.zero_add, Nat.mul_add_mod, Nat.mod_eq_of_lt (by omega)]
theorem getElem?_di (a : List Int) (i : Nat) (h : i < a.length) : (di a)[i]? = some (.int .i64 (a.getD i 0)) := by simp [di, h]
section
variable {T : Nat → Option Fun}
set_option maxHeartbeats 2000000 in
theorem gfirst_ok (h : Has2 T) (bs : List (List Frac3)) (hk : Good T bs) (hl : bs.length ≤ 63) :
    callW T 66 [gsp bs] [] = some (.slice true 1 bs.length (di (wAt (lens bs) 0)), []) := by
  refine callW_ev (h.2 4 (.code F.f66) rfl) rfl ?_
  have tv := gvalid_ok h.1 bs hk (by omega)
  have hll := lens_length bs
  have hwl := wAt_length (lens bs) 0
  simp only [F.f66, gsp, natO, adoptVs, adoptV, List.cons_append, List.nil_append] at tv ⊢
  have hroom : room bs.length 8 = true := room_t _ _ (by omega)
  simp -implicitDefEqProofs (disch := first | omega | (apply calm_by; decide)) only [List.cons_append, List.nil_append, Ev_seq, Ev_region, Ev_skip, Ev_exit, Ev_ret, Ev_block, Ev_cond, Ev_ghost, Ev_draw_calm, GoOn_cmp, GoOn_nil, GoOn_thn, GoOn_thn_e, GoOn_thn_r, GoOn_blk, GoOn_blk_e, GoOn_blk_r, onN_n, onN_e, onN_r, Round_n, Round_e, Round_r, EvC_t, EvC_f, EvW_t, EvW_f, EvR_some, EvN_some, EvO_cons, EvO_nil, wanted, exec, put, passed, opd,
    List.length_cons, List.length_nil, Nat.zero_add, Nat.reduceAdd, List.replicate_succ, List.replicate_zero, List.set_cons_zero, List.set_cons_succ, List.getD_cons_zero, List.getD_cons_succ, Option.map_some, Option.map_none, List.map_cons, List.map_nil,
    bin_add, bin_sub, bin_mul, bin_eql, bin_neq, bin_lss, bin_leq, bin_gtr, bin_geq, bin_quo_nat, bin_rem_nat, bin_or_hi, bin_shr32, bin_shl32, lenV_slice, lenV_ref, ne_eq, not_false_eq_true, beq_true, beq_false, Bool.not_true, Bool.not_false, wrap_i64, wrap_u64, dec_t, dec_f, ite_t, ite_f, ibeq_t, ibeq_f, ibne_t, ibne_f, index_slice, index_ref, slice_slice_hi, slice_ref_hi, Int.natCast_add, Int.cast_ofNat_Int, Int.add_sub_cancel, Int.toNat_natCast, Int.toNat_natCast_add_one, Int.reduceToNat, Nat.mul_one, load_dg, shareL_dg, adoptV, if_true, if_false, ite_true, ite_false, Bool.true_eq, Bool.false_eq_true, beq_self_eq_true, reduceCtorEq, reduceIte, Nat.reduceMul, Nat.reduceSub, Nat.reduceLT, Nat.reduceLeDiff, Nat.reduceEqDiff, callV, takeArgs, takeV, lendArgs, lendV, lendVs, List.headD_cons, List.headD_nil, List.tail_cons, List.tail_nil, List.contains_cons, List.contains_nil, m_al, m_sl, m_ol, m_ll, m_la, m_ls, m_lo, Bool.or_false, Bool.or_true, Bool.false_or, Bool.true_or, idsL, ids, madeV, shareV, shareVs, adoptV, adoptVs, ownOnly, ownOnlyL, Bool.true_and, Bool.and_true, Bool.and_false, Bool.false_and, List.isEmpty_nil, List.isEmpty_cons, giveV, giveVs, Bool.not_false, Bool.not_true, reduceCtorEq, Bool.false_eq_true, if_false, if_true, comps, zeros, fill, layAt, List.zip_cons_cons, List.zip_nil_left, List.zip_nil_right, List.all_cons, List.all_nil, storable, List.append_nil, List.cons_append, List.nil_append, true_and, and_self, Nat.le_refl, Bool.and_self, giveVs, giveV, adoptV, madeV, Option.map_some, List.map_cons, List.map_nil, loadV_addr, Nat.add_zero, storeV, setCells, layAt, cellsAt, borrow, borrowL, cut, theRow, comps, giveVs, giveV, List.getElem?_cons_zero, List.getElem?_cons_succ, List.drop_zero, List.take_succ_cons, List.take_zero, List.take_nil, List.all_cons, List.all_nil, storable, scalarD, Bool.and_self, Bool.false_eq_true, if_false, if_true, and_true, true_and, and_self, Nat.le_refl, false_implies, forall_const, forall_false, imp_false, not_false_eq_true, adoptVs, adoptV, shareL_gblks, shareV, tv, lendVs, lend_slice0, un, hroom, zeros_i64]
  refine Ev_loop (fun m st => ∃ i : Nat, i + m = bs.length ∧ st = ⟨[.undef, .undef, .undef, .ref 0 [] 0 0 bs.length 1, .undef, .undef, .slice false 1 bs.length (gblks bs), .int .i64 bs.length, .int .i64 i], [], [some ⟨di ((wAt (lens bs) 0).take i ++ List.replicate (bs.length - i) 0), false, 0, 0⟩], 0⟩) bs.length
    ⟨0, by omega, ?_⟩ ?_
  · rw [List.take_zero, List.nil_append, Nat.sub_zero]; simp only [norm, keepLive, compact, List.range_zero, List.range_succ, List.nil_append, List.cons_append, List.append_nil, List.contains_cons, List.contains_nil, Bool.or_false, Bool.or_true, Bool.false_or, Bool.true_or, Nat.reduceBEq, beq_self_eq_true, idsL, ids, addId, List.filter_cons, List.filter_nil, decide_true, decide_false, List.map_cons, List.map_nil, maskD, within, withinL, mapD, mapL, subRows, getRow, List.idxOf_cons, List.idxOf_nil, cond_true, cond_false, Bool.and_true, Bool.true_and, if_true, if_false, Bool.false_eq_true, List.length_cons, List.length_nil, Nat.zero_add, Nat.reduceAdd, Nat.reduceLT, List.getD_cons_zero, List.getD_cons_succ, List.set_cons_zero, List.set_cons_succ, reduceIte, reduceCtorEq]; rfl
  rintro m st ⟨i, hi, rfl⟩
  cases m with
  | zero =>
    have ei : i = bs.length := by omega
    subst ei
    have e : (wAt (lens bs) 0).take bs.length ++ List.replicate (bs.length - bs.length) 0 = wAt (lens bs) 0 := by rw [List.take_of_length_le (by omega), Nat.sub_self]; simp
    rw [e]
    have e2 := take_di_self (wAt (lens bs) 0) bs.length (by omega)
    simp -implicitDefEqProofs (disch := first | omega | (apply calm_by; decide)) only [List.cons_append, List.nil_append, Ev_seq, Ev_region, Ev_skip, Ev_exit, Ev_ret, Ev_block, Ev_cond, Ev_ghost, Ev_draw_calm, GoOn_cmp, GoOn_nil, GoOn_thn, GoOn_thn_e, GoOn_thn_r, GoOn_blk, GoOn_blk_e, GoOn_blk_r, onN_n, onN_e, onN_r, Round_n, Round_e, Round_r, EvC_t, EvC_f, EvW_t, EvW_f, EvR_some, EvN_some, EvO_cons, EvO_nil, wanted, exec, put, passed, opd,
    List.length_cons, List.length_nil, Nat.zero_add, Nat.reduceAdd, List.replicate_succ, List.replicate_zero, List.set_cons_zero, List.set_cons_succ, List.getD_cons_zero, List.getD_cons_succ, Option.map_some, Option.map_none, List.map_cons, List.map_nil,
    bin_add, bin_sub, bin_mul, bin_eql, bin_neq, bin_lss, bin_leq, bin_gtr, bin_geq, bin_quo_nat, bin_rem_nat, bin_or_hi, bin_shr32, bin_shl32, lenV_slice, lenV_ref, ne_eq, not_false_eq_true, beq_true, beq_false, Bool.not_true, Bool.not_false, wrap_i64, wrap_u64, dec_t, dec_f, ite_t, ite_f, ibeq_t, ibeq_f, ibne_t, ibne_f, index_slice, index_ref, slice_slice_hi, slice_ref_hi, Int.natCast_add, Int.cast_ofNat_Int, Int.add_sub_cancel, Int.toNat_natCast, Int.toNat_natCast_add_one, Int.reduceToNat, Nat.mul_one, load_dg, shareL_dg, adoptV, if_true, if_false, ite_true, ite_false, Bool.true_eq, Bool.false_eq_true, beq_self_eq_true, reduceCtorEq, reduceIte, Nat.reduceMul, Nat.reduceSub, Nat.reduceLT, Nat.reduceLeDiff, Nat.reduceEqDiff, callV, takeArgs, takeV, lendArgs, lendV, lendVs, List.headD_cons, List.headD_nil, List.tail_cons, List.tail_nil, List.contains_cons, List.contains_nil, m_al, m_sl, m_ol, m_ll, m_la, m_ls, m_lo, Bool.or_false, Bool.or_true, Bool.false_or, Bool.true_or, idsL, ids, madeV, shareV, shareVs, adoptV, adoptVs, ownOnly, ownOnlyL, Bool.true_and, Bool.and_true, Bool.and_false, Bool.false_and, List.isEmpty_nil, List.isEmpty_cons, giveV, giveVs, Bool.not_false, Bool.not_true, reduceCtorEq, Bool.false_eq_true, if_false, if_true, dg_length, take_dg, List.take_length, ends_n, ends_r, results, resVs, resV, giveV, giveVs, shareV, theRow, List.getElem?_cons_zero, List.getElem?_cons_succ, Option.map_some, List.take_zero, List.take_nil, List.take_succ_cons, e2, di_length, hwl, hll]
  | succ m =>
    have hgb := hk.get (i := i) (by omega)
    have hki := hgb.len
    have ld := fun rows => load_gblk rows bs i (by omega)
    have hgd := wAt_getD (lens bs) 0 i (by omega)
    rw [lens_getD, Nat.zero_div, Nat.zero_mod] at hgd
    have hset := set_nextI (R := []) (D := wAt (lens bs) 0) (n := bs.length) (i := i) (by omega) (by omega) hgd.symm
    have hRl : ((wAt (lens bs) 0).take i ++ List.replicate (bs.length - i) 0).length = bs.length := by rw [List.length_append, List.length_take, List.length_replicate]; omega
    generalize (wAt (lens bs) 0).take i ++ List.replicate (bs.length - i) 0 = R at *
    generalize bs.getD i [] = l at *
    have hkk : gblk l = .slice false 3 l.length (frs l) := rfl
    have td := gchoice_ok h.1 l 0 hki
    have ed : (if (0 : Int) = (l.length : Int) then -1 else 0) = chI l.length 0 := by unfold chI; split <;> split <;> omega
    rw [ed] at td
    rw [hkk] at ld td
    simp -implicitDefEqProofs (disch := first | omega | (apply calm_by; decide)) only [List.cons_append, List.nil_append, Ev_seq, Ev_region, Ev_skip, Ev_exit, Ev_ret, Ev_block, Ev_cond, Ev_ghost, Ev_draw_calm, GoOn_cmp, GoOn_nil, GoOn_thn, GoOn_thn_e, GoOn_thn_r, GoOn_blk, GoOn_blk_e, GoOn_blk_r, onN_n, onN_e, onN_r, Round_n, Round_e, Round_r, EvC_t, EvC_f, EvW_t, EvW_f, EvR_some, EvN_some, EvO_cons, EvO_nil, wanted, exec, put, passed, opd,
    List.length_cons, List.length_nil, Nat.zero_add, Nat.reduceAdd, List.replicate_succ, List.replicate_zero, List.set_cons_zero, List.set_cons_succ, List.getD_cons_zero, List.getD_cons_succ, Option.map_some, Option.map_none, List.map_cons, List.map_nil,
    bin_add, bin_sub, bin_mul, bin_eql, bin_neq, bin_lss, bin_leq, bin_gtr, bin_geq, bin_quo_nat, bin_rem_nat, bin_or_hi, bin_shr32, bin_shl32, lenV_slice, lenV_ref, ne_eq, not_false_eq_true, beq_true, beq_false, Bool.not_true, Bool.not_false, wrap_i64, wrap_u64, dec_t, dec_f, ite_t, ite_f, ibeq_t, ibeq_f, ibne_t, ibne_f, index_slice, index_ref, slice_slice_hi, slice_ref_hi, Int.natCast_add, Int.cast_ofNat_Int, Int.add_sub_cancel, Int.toNat_natCast, Int.toNat_natCast_add_one, Int.reduceToNat, Nat.mul_one, load_dg, shareL_dg, adoptV, if_true, if_false, ite_true, ite_false, Bool.true_eq, Bool.false_eq_true, beq_self_eq_true, reduceCtorEq, reduceIte, Nat.reduceMul, Nat.reduceSub, Nat.reduceLT, Nat.reduceLeDiff, Nat.reduceEqDiff, norm, keepLive, compact, List.range_zero, List.range_succ, List.nil_append, List.cons_append, List.append_nil, List.contains_cons, List.contains_nil, Bool.or_false, Bool.or_true, Bool.false_or, Bool.true_or, Nat.reduceBEq, beq_self_eq_true, idsL, ids, addId, List.filter_cons, List.filter_nil, decide_true, decide_false, List.map_cons, List.map_nil, maskD, within, withinL, mapD, mapL, subRows, getRow, List.idxOf_cons, List.idxOf_nil, cond_true, cond_false, Bool.and_true, Bool.true_and, if_true, if_false, Bool.false_eq_true, List.length_cons, List.length_nil, Nat.zero_add, Nat.reduceAdd, Nat.reduceLT, List.getD_cons_zero, List.getD_cons_succ, List.set_cons_zero, List.set_cons_succ, reduceIte, reduceCtorEq, callV, takeArgs, takeV, lendArgs, lendV, lendVs, List.headD_cons, List.headD_nil, List.tail_cons, List.tail_nil, List.contains_cons, List.contains_nil, m_al, m_sl, m_ol, m_ll, m_la, m_ls, m_lo, Bool.or_false, Bool.or_true, Bool.false_or, Bool.true_or, idsL, ids, madeV, shareV, shareVs, adoptV, adoptVs, ownOnly, ownOnlyL, Bool.true_and, Bool.and_true, Bool.and_false, Bool.false_and, List.isEmpty_nil, List.isEmpty_cons, giveV, giveVs, Bool.not_false, Bool.not_true, reduceCtorEq, Bool.false_eq_true, if_false, if_true, comps, zeros, fill, layAt, List.zip_cons_cons, List.zip_nil_left, List.zip_nil_right, List.all_cons, List.all_nil, storable, List.append_nil, List.cons_append, List.nil_append, true_and, and_self, Nat.le_refl, Bool.and_self, giveVs, giveV, adoptV, madeV, Option.map_some, List.map_cons, List.map_nil, loadV_addr, Nat.add_zero, storeV, setCells, layAt, cellsAt, borrow, borrowL, cut, theRow, comps, giveVs, giveV, List.getElem?_cons_zero, List.getElem?_cons_succ, List.drop_zero, List.take_succ_cons, List.take_zero, List.take_nil, List.all_cons, List.all_nil, storable, scalarD, Bool.and_self, Bool.false_eq_true, if_false, if_true, and_true, true_and, and_self, Nat.le_refl, false_implies, forall_const, forall_false, imp_false, not_false_eq_true, adoptVs, adoptV, ld, lendVs, lend_slice0, shareL_frs, shareL_di, shareL_gblks, shareV, td, di_length, di_set, hRl, hset]
    exact ⟨m, by omega, i + 1, by omega, rfl⟩

set_option maxHeartbeats 4000000 in
theorem gnext_ok (h : Has2 T) (bs : List (List Frac3)) (n : Nat) (hk : Good T bs) (hl : bs.length ≤ 63) (hn : n < cnt (lens bs)) :
    callW T 67 [gsp bs, .slice false 1 bs.length (di (wAt (lens bs) n))] [] = some (if n + 1 < cnt (lens bs) then .tup [.slice true 1 bs.length (di (wAt (lens bs) (n + 1))), .bool true] else .tup [.slice true 1 0 [], .bool false], []) := by
  refine callW_ev (h.2 5 (.code F.f67) rfl) rfl ?_
  have hll := lens_length bs
  have hwl := wAt_length (lens bs) n
  have tc := gcontains_ok h.1 bs (wAt (lens bs) n) hk hl (wAt_in _ _)
  rw [hwl, hll] at tc
  have hroom : room bs.length 8 = true := room_t _ _ (by omega)
  have tp : callW T 68 [.slice false 1 bs.length (di (wAt (lens bs) n))] [] = some (.slice true 1 bs.length (di (wAt (lens bs) n)), []) := callW_prim (h.2 6 (.prim cloneP) rfl) (cloneP_di _ _ hroom)
  simp only [F.f67, gsp, adoptVs, adoptV, List.cons_append, List.nil_append] at tc ⊢
  simp -implicitDefEqProofs (disch := first | omega | (apply calm_by; decide)) only [List.cons_append, List.nil_append, Ev_seq, Ev_region, Ev_skip, Ev_exit, Ev_ret, Ev_block, Ev_cond, Ev_ghost, Ev_draw_calm, GoOn_cmp, GoOn_nil, GoOn_thn, GoOn_thn_e, GoOn_thn_r, GoOn_blk, GoOn_blk_e, GoOn_blk_r, onN_n, onN_e, onN_r, Round_n, Round_e, Round_r, EvC_t, EvC_f, EvW_t, EvW_f, EvR_some, EvN_some, EvO_cons, EvO_nil, wanted, exec, put, passed, opd,
    List.length_cons, List.length_nil, Nat.zero_add, Nat.reduceAdd, List.replicate_succ, List.replicate_zero, List.set_cons_zero, List.set_cons_succ, List.getD_cons_zero, List.getD_cons_succ, Option.map_some, Option.map_none, List.map_cons, List.map_nil,
    bin_add, bin_sub, bin_mul, bin_eql, bin_neq, bin_lss, bin_leq, bin_gtr, bin_geq, bin_quo_nat, bin_rem_nat, bin_or_hi, bin_shr32, bin_shl32, lenV_slice, lenV_ref, ne_eq, not_false_eq_true, beq_true, beq_false, Bool.not_true, Bool.not_false, wrap_i64, wrap_u64, dec_t, dec_f, ite_t, ite_f, ibeq_t, ibeq_f, ibne_t, ibne_f, index_slice, index_ref, slice_slice_hi, slice_ref_hi, Int.natCast_add, Int.cast_ofNat_Int, Int.add_sub_cancel, Int.toNat_natCast, Int.toNat_natCast_add_one, Int.reduceToNat, Nat.mul_one, load_dg, shareL_dg, adoptV, if_true, if_false, ite_true, ite_false, Bool.true_eq, Bool.false_eq_true, beq_self_eq_true, reduceCtorEq, reduceIte, Nat.reduceMul, Nat.reduceSub, Nat.reduceLT, Nat.reduceLeDiff, Nat.reduceEqDiff, callV, takeArgs, takeV, lendArgs, lendV, lendVs, List.headD_cons, List.headD_nil, List.tail_cons, List.tail_nil, List.contains_cons, List.contains_nil, m_al, m_sl, m_ol, m_ll, m_la, m_ls, m_lo, Bool.or_false, Bool.or_true, Bool.false_or, Bool.true_or, idsL, ids, madeV, shareV, shareVs, adoptV, adoptVs, ownOnly, ownOnlyL, Bool.true_and, Bool.and_true, Bool.and_false, Bool.false_and, List.isEmpty_nil, List.isEmpty_cons, giveV, giveVs, Bool.not_false, Bool.not_true, reduceCtorEq, Bool.false_eq_true, if_false, if_true, comps, zeros, fill, layAt, List.zip_cons_cons, List.zip_nil_left, List.zip_nil_right, List.all_cons, List.all_nil, storable, List.append_nil, List.cons_append, List.nil_append, true_and, and_self, Nat.le_refl, Bool.and_self, giveVs, giveV, adoptV, madeV, Option.map_some, List.map_cons, List.map_nil, loadV_addr, Nat.add_zero, storeV, setCells, layAt, cellsAt, borrow, borrowL, cut, theRow, comps, giveVs, giveV, List.getElem?_cons_zero, List.getElem?_cons_succ, List.drop_zero, List.take_succ_cons, List.take_zero, List.take_nil, List.all_cons, List.all_nil, storable, scalarD, Bool.and_self, Bool.false_eq_true, if_false, if_true, and_true, true_and, and_self, Nat.le_refl, false_implies, forall_const, forall_false, imp_false, not_false_eq_true, adoptVs, adoptV, shareL_gblks, shareL_di, shareV, tc, tp, lendVs, lend_slice0, un]
  refine Ev_loop (fun m st => m ≤ bs.length ∧ (n + 1) % cnt ((lens bs).drop m) = 0 ∧ st = ⟨[.undef, .undef, .addr 0 [] 0 0, .undef, .undef, .ref 1 [] 0 0 bs.length 1, .int .i64 ((m : Int) - 1), .undef, .undef], [], [some ⟨[.slice false 1 bs.length (gblks bs)], false, 0, 0⟩, some ⟨di ((wAt (lens bs) n).take m ++ wAt ((lens bs).drop m) 0), false, 0, 0⟩], 0⟩) bs.length
    ⟨Nat.le_refl _, by rw [List.drop_of_length_le (by omega), cnt, Nat.mod_one], ?_⟩ ?_
  · rw [List.take_of_length_le (by omega), List.drop_of_length_le (by omega), wAt, List.append_nil]; simp only [norm, keepLive, compact, List.range_zero, List.range_succ, List.nil_append, List.cons_append, List.append_nil, List.contains_cons, List.contains_nil, Bool.or_false, Bool.or_true, Bool.false_or, Bool.true_or, Nat.reduceBEq, beq_self_eq_true, idsL, ids, addId, List.filter_cons, List.filter_nil, decide_true, decide_false, List.map_cons, List.map_nil, maskD, within, withinL, mapD, mapL, subRows, getRow, List.idxOf_cons, List.idxOf_nil, cond_true, cond_false, Bool.and_true, Bool.true_and, if_true, if_false, Bool.false_eq_true, List.length_cons, List.length_nil, Nat.zero_add, Nat.reduceAdd, Nat.reduceLT, List.getD_cons_zero, List.getD_cons_succ, List.set_cons_zero, List.set_cons_succ, reduceIte, reduceCtorEq]
  rintro m st ⟨hm, h0, rfl⟩
  cases m with
  | zero =>
    rw [List.drop_zero] at h0
    have hz : ¬ n + 1 < cnt (lens bs) := fun hc => by rw [Nat.mod_eq_of_lt hc] at h0; omega
    rw [if_neg hz]
    simp -implicitDefEqProofs (disch := first | omega | (apply calm_by; decide)) only [List.cons_append, List.nil_append, Ev_seq, Ev_region, Ev_skip, Ev_exit, Ev_ret, Ev_block, Ev_cond, Ev_ghost, Ev_draw_calm, GoOn_cmp, GoOn_nil, GoOn_thn, GoOn_thn_e, GoOn_thn_r, GoOn_blk, GoOn_blk_e, GoOn_blk_r, onN_n, onN_e, onN_r, Round_n, Round_e, Round_r, EvC_t, EvC_f, EvW_t, EvW_f, EvR_some, EvN_some, EvO_cons, EvO_nil, wanted, exec, put, passed, opd,
    List.length_cons, List.length_nil, Nat.zero_add, Nat.reduceAdd, List.replicate_succ, List.replicate_zero, List.set_cons_zero, List.set_cons_succ, List.getD_cons_zero, List.getD_cons_succ, Option.map_some, Option.map_none, List.map_cons, List.map_nil,
    bin_add, bin_sub, bin_mul, bin_eql, bin_neq, bin_lss, bin_leq, bin_gtr, bin_geq, bin_quo_nat, bin_rem_nat, bin_or_hi, bin_shr32, bin_shl32, lenV_slice, lenV_ref, ne_eq, not_false_eq_true, beq_true, beq_false, Bool.not_true, Bool.not_false, wrap_i64, wrap_u64, dec_t, dec_f, ite_t, ite_f, ibeq_t, ibeq_f, ibne_t, ibne_f, index_slice, index_ref, slice_slice_hi, slice_ref_hi, Int.natCast_add, Int.cast_ofNat_Int, Int.add_sub_cancel, Int.toNat_natCast, Int.toNat_natCast_add_one, Int.reduceToNat, Nat.mul_one, load_dg, shareL_dg, adoptV, if_true, if_false, ite_true, ite_false, Bool.true_eq, Bool.false_eq_true, beq_self_eq_true, reduceCtorEq, reduceIte, Nat.reduceMul, Nat.reduceSub, Nat.reduceLT, Nat.reduceLeDiff, Nat.reduceEqDiff, callV, takeArgs, takeV, lendArgs, lendV, lendVs, List.headD_cons, List.headD_nil, List.tail_cons, List.tail_nil, List.contains_cons, List.contains_nil, m_al, m_sl, m_ol, m_ll, m_la, m_ls, m_lo, Bool.or_false, Bool.or_true, Bool.false_or, Bool.true_or, idsL, ids, madeV, shareV, shareVs, adoptV, adoptVs, ownOnly, ownOnlyL, Bool.true_and, Bool.and_true, Bool.and_false, Bool.false_and, List.isEmpty_nil, List.isEmpty_cons, giveV, giveVs, Bool.not_false, Bool.not_true, reduceCtorEq, Bool.false_eq_true, if_false, if_true, dg_length, take_dg, List.take_length, ends_n, ends_r, results, resVs, resV, giveV, giveVs, shareV, theRow, List.getElem?_cons_zero, List.getElem?_cons_succ, Option.map_some, List.take_zero, List.take_nil, List.take_succ_cons]
  | succ j =>
    have hgb := hk.get (i := j) (by omega)
    have hki := hgb.len
    have ld := fun rows => load_gblk rows bs j (by omega)
    have hgd := wAt_getD (lens bs) n j (by omega)
    have hnx := wAt_next (lens bs) n j (by omega) h0
    have hzr := next_zero (lens bs) n j (by omega) h0
    have hla := last_digit (lens bs) n j (by omega)
    have hdj : wAt ((lens bs).drop j) 0 = chI (bs.getD j []).length 0 :: wAt ((lens bs).drop (j + 1)) 0 := by rw [drop_get (lens bs) j (by omega), wAt, Nat.zero_div, Nat.zero_mod, lens_getD]
    rw [lens_getD] at hgd hnx hzr hla
    have hRl : ((wAt (lens bs) n).take (j + 1) ++ wAt ((lens bs).drop (j + 1)) 0).length = bs.length := by simp only [List.length_append, List.length_take, wAt_length, List.length_drop]; omega
    have htl : ((wAt (lens bs) n).take j).length = j := by rw [List.length_take]; omega
    have htk : (wAt (lens bs) n).take (j + 1) = (wAt (lens bs) n).take j ++ [(wAt (lens bs) n).getD j 0] := by rw [List.take_add_one]; simp [show j < (wAt (lens bs) n).length by omega]
    have hset : ∀ x, ((wAt (lens bs) n).take (j + 1) ++ wAt ((lens bs).drop (j + 1)) 0).set j x = (wAt (lens bs) n).take j ++ x :: wAt ((lens bs).drop (j + 1)) 0 := fun x => by
      rw [htk, List.append_assoc, List.set_append_right _ _ (by omega), htl, Nat.sub_self]; rfl
    have hget : ((wAt (lens bs) n).take (j + 1) ++ wAt ((lens bs).drop (j + 1)) 0).getD j 0 = (wAt (lens bs) n).getD j 0 := by
      rw [List.getD_eq_getElem?_getD, List.getElem?_append_left (by rw [List.length_take]; omega), List.getElem?_take, if_pos (by omega), ← List.getD_eq_getElem?_getD]
    have hge := getElem?_di ((wAt (lens bs) n).take (j + 1) ++ wAt ((lens bs).drop (j + 1)) 0) j (by omega)
    rw [hget, hgd] at hge
    have hml := Nat.mod_lt (n / cnt ((lens bs).drop (j + 1))) (show 0 < (bs.getD j []).length + 1 by omega)
    generalize (wAt (lens bs) n).take (j + 1) ++ wAt ((lens bs).drop (j + 1)) 0 = R at *
    generalize n / cnt ((lens bs).drop (j + 1)) % ((bs.getD j []).length + 1) = d at *
    generalize bs.getD j [] = l at *
    have hkk : gblk l = .slice false 3 l.length (frs l) := rfl
    have tr := gradix_ok h.1 l hki
    have td := gdigit_ok h.1 l (chI l.length d) hki
    have ed : (if chI l.length d < 0 then (l.length : Int) else chI l.length d) = ((d : Nat) : Int) := by unfold chI; split <;> split <;> omega
    rw [ed] at td
    have tq := gchoice_ok h.1 l ((d : Int) + 1) hki
    have tz := gchoice_ok h.1 l 0 hki
    have eq : (if (d : Int) + 1 = (l.length : Int) then -1 else (d : Int) + 1) = chI l.length (d + 1) := by unfold chI; split <;> split <;> omega
    have ez : (if (0 : Int) = (l.length : Int) then -1 else 0) = chI l.length 0 := by unfold chI; split <;> split <;> omega
    rw [eq] at tq
    rw [ez] at tz
    rw [hkk] at ld tr td tq tz
    by_cases hd : d = l.length
    · simp -implicitDefEqProofs (disch := first | omega | (apply calm_by; decide)) only [List.cons_append, List.nil_append, Ev_seq, Ev_region, Ev_skip, Ev_exit, Ev_ret, Ev_block, Ev_cond, Ev_ghost, Ev_draw_calm, GoOn_cmp, GoOn_nil, GoOn_thn, GoOn_thn_e, GoOn_thn_r, GoOn_blk, GoOn_blk_e, GoOn_blk_r, onN_n, onN_e, onN_r, Round_n, Round_e, Round_r, EvC_t, EvC_f, EvW_t, EvW_f, EvR_some, EvN_some, EvO_cons, EvO_nil, wanted, exec, put, passed, opd,
    List.length_cons, List.length_nil, Nat.zero_add, Nat.reduceAdd, List.replicate_succ, List.replicate_zero, List.set_cons_zero, List.set_cons_succ, List.getD_cons_zero, List.getD_cons_succ, Option.map_some, Option.map_none, List.map_cons, List.map_nil,
    bin_add, bin_sub, bin_mul, bin_eql, bin_neq, bin_lss, bin_leq, bin_gtr, bin_geq, bin_quo_nat, bin_rem_nat, bin_or_hi, bin_shr32, bin_shl32, lenV_slice, lenV_ref, ne_eq, not_false_eq_true, beq_true, beq_false, Bool.not_true, Bool.not_false, wrap_i64, wrap_u64, dec_t, dec_f, ite_t, ite_f, ibeq_t, ibeq_f, ibne_t, ibne_f, index_slice, index_ref, slice_slice_hi, slice_ref_hi, Int.natCast_add, Int.cast_ofNat_Int, Int.add_sub_cancel, Int.toNat_natCast, Int.toNat_natCast_add_one, Int.reduceToNat, Nat.mul_one, load_dg, shareL_dg, adoptV, if_true, if_false, ite_true, ite_false, Bool.true_eq, Bool.false_eq_true, beq_self_eq_true, reduceCtorEq, reduceIte, Nat.reduceMul, Nat.reduceSub, Nat.reduceLT, Nat.reduceLeDiff, Nat.reduceEqDiff, Ev_drawn, EvD_cons, EvD_nil, EvDR_some, xd_move, xd_assign, xd_bin, xd_conv, xd_field, xd_index, xd_load, xd_len, xd_extract, xd_build, xd_call, xd_makeSlice, xd_buildSlice, xd_append, xd_store, execAt, opIds, AOp.opds, slotsAt, List.sum_cons, List.sum_nil, List.take_succ_cons, List.take_zero, List.take_nil, List.range'_succ, List.range'_zero, Nat.add_zero, maskD, within, withinL, mapD, mapL, subRows, getRow, writeBack, addId, List.contains_cons, List.contains_nil, Nat.reduceBEq, List.idxOf_cons, List.idxOf_nil, cond_true, cond_false, List.append_nil, List.replicate_succ, List.replicate_zero, List.set_cons_zero, List.set_cons_succ, norm, keepLive, compact, List.range_zero, List.range_succ, List.nil_append, List.cons_append, List.append_nil, List.contains_cons, List.contains_nil, Bool.or_false, Bool.or_true, Bool.false_or, Bool.true_or, Nat.reduceBEq, beq_self_eq_true, idsL, ids, addId, List.filter_cons, List.filter_nil, decide_true, decide_false, List.map_cons, List.map_nil, maskD, within, withinL, mapD, mapL, subRows, getRow, List.idxOf_cons, List.idxOf_nil, cond_true, cond_false, Bool.and_true, Bool.true_and, if_true, if_false, Bool.false_eq_true, List.length_cons, List.length_nil, Nat.zero_add, Nat.reduceAdd, Nat.reduceLT, List.getD_cons_zero, List.getD_cons_succ, List.set_cons_zero, List.set_cons_succ, reduceIte, reduceCtorEq, callV, takeArgs, takeV, lendArgs, lendV, lendVs, List.headD_cons, List.headD_nil, List.tail_cons, List.tail_nil, List.contains_cons, List.contains_nil, m_al, m_sl, m_ol, m_ll, m_la, m_ls, m_lo, Bool.or_false, Bool.or_true, Bool.false_or, Bool.true_or, idsL, ids, madeV, shareV, shareVs, adoptV, adoptVs, ownOnly, ownOnlyL, Bool.true_and, Bool.and_true, Bool.and_false, Bool.false_and, List.isEmpty_nil, List.isEmpty_cons, giveV, giveVs, Bool.not_false, Bool.not_true, reduceCtorEq, Bool.false_eq_true, if_false, if_true, comps, zeros, fill, layAt, List.zip_cons_cons, List.zip_nil_left, List.zip_nil_right, List.all_cons, List.all_nil, storable, List.append_nil, List.cons_append, List.nil_append, true_and, and_self, Nat.le_refl, Bool.and_self, giveVs, giveV, adoptV, madeV, Option.map_some, List.map_cons, List.map_nil, loadV_addr, Nat.add_zero, storeV, setCells, layAt, cellsAt, borrow, borrowL, cut, theRow, comps, giveVs, giveV, List.getElem?_cons_zero, List.getElem?_cons_succ, List.drop_zero, List.take_succ_cons, List.take_zero, List.take_nil, List.all_cons, List.all_nil, storable, scalarD, Bool.and_self, Bool.false_eq_true, if_false, if_true, and_true, true_and, and_self, Nat.le_refl, false_implies, forall_const, forall_false, imp_false, not_false_eq_true, adoptVs, adoptV, ld, lendVs, lend_slice0, shareL_frs, shareL_di, shareL_gblks, shareV, tr, td, tq, tz, di_length, di_set, hRl, hge, hset]
      refine ⟨rfl, ?_⟩
      simp only [norm, keepLive, compact, List.range_zero, List.range_succ, List.nil_append, List.cons_append, List.append_nil, List.contains_cons, List.contains_nil, Bool.or_false, Bool.or_true, Bool.false_or, Bool.true_or, Nat.reduceBEq, beq_self_eq_true, idsL, ids, addId, List.filter_cons, List.filter_nil, decide_true, decide_false, List.map_cons, List.map_nil, maskD, within, withinL, mapD, mapL, subRows, getRow, List.idxOf_cons, List.idxOf_nil, cond_true, cond_false, Bool.and_true, Bool.true_and, if_true, if_false, Bool.false_eq_true, List.length_cons, List.length_nil, Nat.zero_add, Nat.reduceAdd, Nat.reduceLT, List.getD_cons_zero, List.getD_cons_succ, List.set_cons_zero, List.set_cons_succ, reduceIte, reduceCtorEq]
      simp -implicitDefEqProofs (maxSteps := 4000000) (disch := first | omega | (apply calm_by; decide)) only [List.cons_append, List.nil_append, Ev_seq, Ev_region, Ev_skip, Ev_exit, Ev_ret, Ev_block, Ev_cond, Ev_ghost, Ev_draw_calm, GoOn_cmp, GoOn_nil, GoOn_thn, GoOn_thn_e, GoOn_thn_r, GoOn_blk, GoOn_blk_e, GoOn_blk_r, onN_n, onN_e, onN_r, Round_n, Round_e, Round_r, EvC_t, EvC_f, EvW_t, EvW_f, EvR_some, EvN_some, EvO_cons, EvO_nil, wanted, exec, put, passed, opd,
    List.length_cons, List.length_nil, Nat.zero_add, Nat.reduceAdd, List.replicate_succ, List.replicate_zero, List.set_cons_zero, List.set_cons_succ, List.getD_cons_zero, List.getD_cons_succ, Option.map_some, Option.map_none, List.map_cons, List.map_nil,
    bin_add, bin_sub, bin_mul, bin_eql, bin_neq, bin_lss, bin_leq, bin_gtr, bin_geq, bin_quo_nat, bin_rem_nat, bin_or_hi, bin_shr32, bin_shl32, lenV_slice, lenV_ref, ne_eq, not_false_eq_true, beq_true, beq_false, Bool.not_true, Bool.not_false, wrap_i64, wrap_u64, dec_t, dec_f, ite_t, ite_f, ibeq_t, ibeq_f, ibne_t, ibne_f, index_slice, index_ref, slice_slice_hi, slice_ref_hi, Int.natCast_add, Int.cast_ofNat_Int, Int.add_sub_cancel, Int.toNat_natCast, Int.toNat_natCast_add_one, Int.reduceToNat, Nat.mul_one, load_dg, shareL_dg, adoptV, if_true, if_false, ite_true, ite_false, Bool.true_eq, Bool.false_eq_true, beq_self_eq_true, reduceCtorEq, reduceIte, Nat.reduceMul, Nat.reduceSub, Nat.reduceLT, Nat.reduceLeDiff, Nat.reduceEqDiff, norm, keepLive, compact, List.range_zero, List.range_succ, List.nil_append, List.cons_append, List.append_nil, List.contains_cons, List.contains_nil, Bool.or_false, Bool.or_true, Bool.false_or, Bool.true_or, Nat.reduceBEq, beq_self_eq_true, idsL, ids, addId, List.filter_cons, List.filter_nil, decide_true, decide_false, List.map_cons, List.map_nil, maskD, within, withinL, mapD, mapL, subRows, getRow, List.idxOf_cons, List.idxOf_nil, cond_true, cond_false, Bool.and_true, Bool.true_and, if_true, if_false, Bool.false_eq_true, List.length_cons, List.length_nil, Nat.zero_add, Nat.reduceAdd, Nat.reduceLT, List.getD_cons_zero, List.getD_cons_succ, List.set_cons_zero, List.set_cons_succ, reduceIte, reduceCtorEq, callV, takeArgs, takeV, lendArgs, lendV, lendVs, List.headD_cons, List.headD_nil, List.tail_cons, List.tail_nil, List.contains_cons, List.contains_nil, m_al, m_sl, m_ol, m_ll, m_la, m_ls, m_lo, Bool.or_false, Bool.or_true, Bool.false_or, Bool.true_or, idsL, ids, madeV, shareV, shareVs, adoptV, adoptVs, ownOnly, ownOnlyL, Bool.true_and, Bool.and_true, Bool.and_false, Bool.false_and, List.isEmpty_nil, List.isEmpty_cons, giveV, giveVs, Bool.not_false, Bool.not_true, reduceCtorEq, Bool.false_eq_true, if_false, if_true, comps, zeros, fill, layAt, List.zip_cons_cons, List.zip_nil_left, List.zip_nil_right, List.all_cons, List.all_nil, storable, List.append_nil, List.cons_append, List.nil_append, true_and, and_self, Nat.le_refl, Bool.and_self, giveVs, giveV, adoptV, madeV, Option.map_some, List.map_cons, List.map_nil, loadV_addr, Nat.add_zero, storeV, setCells, layAt, cellsAt, borrow, borrowL, cut, theRow, comps, giveVs, giveV, List.getElem?_cons_zero, List.getElem?_cons_succ, List.drop_zero, List.take_succ_cons, List.take_zero, List.take_nil, List.all_cons, List.all_nil, storable, scalarD, Bool.and_self, Bool.false_eq_true, if_false, if_true, and_true, true_and, and_self, Nat.le_refl, false_implies, forall_const, forall_false, imp_false, not_false_eq_true, adoptVs, adoptV, lendVs, lend_slice0, shareL_frs, shareL_di, shareL_gblks, shareV, tr, tz, di_length, di_set, hRl, hset]
      exact ⟨j, by omega, by omega, hzr hd, by rw [hdj]⟩
    · simp -implicitDefEqProofs (disch := first | omega | (apply calm_by; decide)) only [List.cons_append, List.nil_append, Ev_seq, Ev_region, Ev_skip, Ev_exit, Ev_ret, Ev_block, Ev_cond, Ev_ghost, Ev_draw_calm, GoOn_cmp, GoOn_nil, GoOn_thn, GoOn_thn_e, GoOn_thn_r, GoOn_blk, GoOn_blk_e, GoOn_blk_r, onN_n, onN_e, onN_r, Round_n, Round_e, Round_r, EvC_t, EvC_f, EvW_t, EvW_f, EvR_some, EvN_some, EvO_cons, EvO_nil, wanted, exec, put, passed, opd,
    List.length_cons, List.length_nil, Nat.zero_add, Nat.reduceAdd, List.replicate_succ, List.replicate_zero, List.set_cons_zero, List.set_cons_succ, List.getD_cons_zero, List.getD_cons_succ, Option.map_some, Option.map_none, List.map_cons, List.map_nil,
    bin_add, bin_sub, bin_mul, bin_eql, bin_neq, bin_lss, bin_leq, bin_gtr, bin_geq, bin_quo_nat, bin_rem_nat, bin_or_hi, bin_shr32, bin_shl32, lenV_slice, lenV_ref, ne_eq, not_false_eq_true, beq_true, beq_false, Bool.not_true, Bool.not_false, wrap_i64, wrap_u64, dec_t, dec_f, ite_t, ite_f, ibeq_t, ibeq_f, ibne_t, ibne_f, index_slice, index_ref, slice_slice_hi, slice_ref_hi, Int.natCast_add, Int.cast_ofNat_Int, Int.add_sub_cancel, Int.toNat_natCast, Int.toNat_natCast_add_one, Int.reduceToNat, Nat.mul_one, load_dg, shareL_dg, adoptV, if_true, if_false, ite_true, ite_false, Bool.true_eq, Bool.false_eq_true, beq_self_eq_true, reduceCtorEq, reduceIte, Nat.reduceMul, Nat.reduceSub, Nat.reduceLT, Nat.reduceLeDiff, Nat.reduceEqDiff, Ev_drawn, EvD_cons, EvD_nil, EvDR_some, xd_move, xd_assign, xd_bin, xd_conv, xd_field, xd_index, xd_load, xd_len, xd_extract, xd_build, xd_call, xd_makeSlice, xd_buildSlice, xd_append, xd_store, execAt, opIds, AOp.opds, slotsAt, List.sum_cons, List.sum_nil, List.take_succ_cons, List.take_zero, List.take_nil, List.range'_succ, List.range'_zero, Nat.add_zero, maskD, within, withinL, mapD, mapL, subRows, getRow, writeBack, addId, List.contains_cons, List.contains_nil, Nat.reduceBEq, List.idxOf_cons, List.idxOf_nil, cond_true, cond_false, List.append_nil, List.replicate_succ, List.replicate_zero, List.set_cons_zero, List.set_cons_succ, norm, keepLive, compact, List.range_zero, List.range_succ, List.nil_append, List.cons_append, List.append_nil, List.contains_cons, List.contains_nil, Bool.or_false, Bool.or_true, Bool.false_or, Bool.true_or, Nat.reduceBEq, beq_self_eq_true, idsL, ids, addId, List.filter_cons, List.filter_nil, decide_true, decide_false, List.map_cons, List.map_nil, maskD, within, withinL, mapD, mapL, subRows, getRow, List.idxOf_cons, List.idxOf_nil, cond_true, cond_false, Bool.and_true, Bool.true_and, if_true, if_false, Bool.false_eq_true, List.length_cons, List.length_nil, Nat.zero_add, Nat.reduceAdd, Nat.reduceLT, List.getD_cons_zero, List.getD_cons_succ, List.set_cons_zero, List.set_cons_succ, reduceIte, reduceCtorEq, callV, takeArgs, takeV, lendArgs, lendV, lendVs, List.headD_cons, List.headD_nil, List.tail_cons, List.tail_nil, List.contains_cons, List.contains_nil, m_al, m_sl, m_ol, m_ll, m_la, m_ls, m_lo, Bool.or_false, Bool.or_true, Bool.false_or, Bool.true_or, idsL, ids, madeV, shareV, shareVs, adoptV, adoptVs, ownOnly, ownOnlyL, Bool.true_and, Bool.and_true, Bool.and_false, Bool.false_and, List.isEmpty_nil, List.isEmpty_cons, giveV, giveVs, Bool.not_false, Bool.not_true, reduceCtorEq, Bool.false_eq_true, if_false, if_true, comps, zeros, fill, layAt, List.zip_cons_cons, List.zip_nil_left, List.zip_nil_right, List.all_cons, List.all_nil, storable, List.append_nil, List.cons_append, List.nil_append, true_and, and_self, Nat.le_refl, Bool.and_self, giveVs, giveV, adoptV, madeV, Option.map_some, List.map_cons, List.map_nil, loadV_addr, Nat.add_zero, storeV, setCells, layAt, cellsAt, borrow, borrowL, cut, theRow, comps, giveVs, giveV, List.getElem?_cons_zero, List.getElem?_cons_succ, List.drop_zero, List.take_succ_cons, List.take_zero, List.take_nil, List.all_cons, List.all_nil, storable, scalarD, Bool.and_self, Bool.false_eq_true, if_false, if_true, and_true, true_and, and_self, Nat.le_refl, false_implies, forall_const, forall_false, imp_false, not_false_eq_true, adoptVs, adoptV, ld, lendVs, lend_slice0, shareL_frs, shareL_di, shareL_gblks, shareV, tr, td, tq, tz, di_length, di_set, hRl, hge, hset]
      refine ⟨rfl, ?_⟩
      have hlt : n + 1 < cnt (lens bs) := by
        rcases Nat.lt_or_ge (n + 1) (cnt (lens bs)) with hc | hc
        · exact hc
        · exact absurd (hla (by omega)) hd
      have hnx2 := hnx hd
      have hwl2 := wAt_length (lens bs) (n + 1)
      have e2 := take_di_self (wAt (lens bs) (n + 1)) bs.length (by omega)
      simp only [norm, keepLive, compact, List.range_zero, List.range_succ, List.nil_append, List.cons_append, List.append_nil, List.contains_cons, List.contains_nil, Bool.or_false, Bool.or_true, Bool.false_or, Bool.true_or, Nat.reduceBEq, beq_self_eq_true, idsL, ids, addId, List.filter_cons, List.filter_nil, decide_true, decide_false, List.map_cons, List.map_nil, maskD, within, withinL, mapD, mapL, subRows, getRow, List.idxOf_cons, List.idxOf_nil, cond_true, cond_false, Bool.and_true, Bool.true_and, if_true, if_false, Bool.false_eq_true, List.length_cons, List.length_nil, Nat.zero_add, Nat.reduceAdd, Nat.reduceLT, List.getD_cons_zero, List.getD_cons_succ, List.set_cons_zero, List.set_cons_succ, reduceIte, reduceCtorEq]
      simp -implicitDefEqProofs (maxSteps := 4000000) (disch := first | omega | (apply calm_by; decide)) only [List.cons_append, List.nil_append, Ev_seq, Ev_region, Ev_skip, Ev_exit, Ev_ret, Ev_block, Ev_cond, Ev_ghost, Ev_draw_calm, GoOn_cmp, GoOn_nil, GoOn_thn, GoOn_thn_e, GoOn_thn_r, GoOn_blk, GoOn_blk_e, GoOn_blk_r, onN_n, onN_e, onN_r, Round_n, Round_e, Round_r, EvC_t, EvC_f, EvW_t, EvW_f, EvR_some, EvN_some, EvO_cons, EvO_nil, wanted, exec, put, passed, opd,
    List.length_cons, List.length_nil, Nat.zero_add, Nat.reduceAdd, List.replicate_succ, List.replicate_zero, List.set_cons_zero, List.set_cons_succ, List.getD_cons_zero, List.getD_cons_succ, Option.map_some, Option.map_none, List.map_cons, List.map_nil,
    bin_add, bin_sub, bin_mul, bin_eql, bin_neq, bin_lss, bin_leq, bin_gtr, bin_geq, bin_quo_nat, bin_rem_nat, bin_or_hi, bin_shr32, bin_shl32, lenV_slice, lenV_ref, ne_eq, not_false_eq_true, beq_true, beq_false, Bool.not_true, Bool.not_false, wrap_i64, wrap_u64, dec_t, dec_f, ite_t, ite_f, ibeq_t, ibeq_f, ibne_t, ibne_f, index_slice, index_ref, slice_slice_hi, slice_ref_hi, Int.natCast_add, Int.cast_ofNat_Int, Int.add_sub_cancel, Int.toNat_natCast, Int.toNat_natCast_add_one, Int.reduceToNat, Nat.mul_one, load_dg, shareL_dg, adoptV, if_true, if_false, ite_true, ite_false, Bool.true_eq, Bool.false_eq_true, beq_self_eq_true, reduceCtorEq, reduceIte, Nat.reduceMul, Nat.reduceSub, Nat.reduceLT, Nat.reduceLeDiff, Nat.reduceEqDiff, callV, takeArgs, takeV, lendArgs, lendV, lendVs, List.headD_cons, List.headD_nil, List.tail_cons, List.tail_nil, List.contains_cons, List.contains_nil, m_al, m_sl, m_ol, m_ll, m_la, m_ls, m_lo, Bool.or_false, Bool.or_true, Bool.false_or, Bool.true_or, idsL, ids, madeV, shareV, shareVs, adoptV, adoptVs, ownOnly, ownOnlyL, Bool.true_and, Bool.and_true, Bool.and_false, Bool.false_and, List.isEmpty_nil, List.isEmpty_cons, giveV, giveVs, Bool.not_false, Bool.not_true, reduceCtorEq, Bool.false_eq_true, if_false, if_true, comps, zeros, fill, layAt, List.zip_cons_cons, List.zip_nil_left, List.zip_nil_right, List.all_cons, List.all_nil, storable, List.append_nil, List.cons_append, List.nil_append, true_and, and_self, Nat.le_refl, Bool.and_self, giveVs, giveV, adoptV, madeV, Option.map_some, List.map_cons, List.map_nil, loadV_addr, Nat.add_zero, storeV, setCells, layAt, cellsAt, borrow, borrowL, cut, theRow, comps, giveVs, giveV, List.getElem?_cons_zero, List.getElem?_cons_succ, List.drop_zero, List.take_succ_cons, List.take_zero, List.take_nil, List.all_cons, List.all_nil, storable, scalarD, Bool.and_self, Bool.false_eq_true, if_false, if_true, and_true, true_and, and_self, Nat.le_refl, false_implies, forall_const, forall_false, imp_false, not_false_eq_true, adoptVs, adoptV, dg_length, take_dg, List.take_length, ends_n, ends_r, results, resVs, resV, giveV, giveVs, shareV, theRow, List.getElem?_cons_zero, List.getElem?_cons_succ, Option.map_some, List.take_zero, List.take_nil, List.take_succ_cons, lendVs, lend_slice0, shareL_frs, shareL_di, shareL_gblks, shareV, tr, tq, di_length, di_set, hRl, hset, hnx2, e2, hwl2, hll]
end
end Av
namespace Av
open Go
set_option linter.unusedSimpArgs false
set_option linter.unusedVariables false
theorem cnt_le3 : ∀ {ks : List Nat}, (∀ k ∈ ks, k ≤ 2) → cnt ks ≤ 3 ^ ks.length
  | [], _ => by simp [cnt]
  | k :: ks, h => by
    have h1 := cnt_le3 (ks := ks) (fun x hx => h x (by simp [hx]))
    have h2 := h k (by simp)
    rw [cnt, List.length_cons, Nat.pow_succ, Nat.mul_comm (3 ^ _)]
    exact Nat.mul_le_mul (by omega) h1
theorem take_gblks (bs : List (List Frac3)) (n : Nat) (h : bs.length = n) : (gblks bs).take n = gblks bs := by rw [List.take_of_length_le]; rw [gblks_length]; omega
section
variable {T : Nat → Option Fun}
set_option maxHeartbeats 4000000 in
theorem visits_ok (h : Has2 T) (q : QF T) (hkn : callW T 44 [] [] = some (.bool true, [])) (hgood : ∀ l c, Good T (spS l c)) (l : List Int) (hl : l.length < 2 ^ 63) (h2 : ∀ l c, ∀ k ∈ lens (spS l c), k ≤ 2) :
    callW T 62 [.slice false 1 l.length (di l)] [] = some (.bool true, []) := by
  refine callW_ev (h.2 0 (.code F.f62) rfl) rfl ?_
  have ts := space_ok h q l hl
  have hm6 := Nat.mod_lt (atN l 0) (show 0 < 6 by omega)
  have hg := hgood l (atN l 0 % 6)
  have hlen := spS_length l (atN l 0 % 6)
  have hk2 := h2 l (atN l 0 % 6)
  generalize spS l (atN l 0 % 6) = bs at *
  generalize atN l 0 % 6 = c at *
  subst hlen
  have hl63 : bs.length ≤ 63 := by omega
  have hcb : cnt (lens bs) ≤ 243 := by
    have h1 := cnt_le3 hk2
    rw [lens_length] at h1
    have h3 : 3 ^ bs.length ≤ 3 ^ 5 := Nat.pow_le_pow_right (by omega) (by omega)
    omega
  have hcp := cnt_pos (lens bs)
  have hll := lens_length bs
  have tf := gfirst_ok h bs hg hl63
  have tcnt := gcount_ok h.1 bs hg hl63
  have hgl := gblksO_length bs
  have htk := take_gblks bs bs.length rfl
  have htO : (gblksO bs).take bs.length = gblksO bs := List.take_of_length_le (by omega)
  simp only [gsp, natO] at tf tcnt
  simp only [F.f62, adoptVs, adoptV, List.cons_append, List.nil_append]
  simp -implicitDefEqProofs (disch := first | omega | (apply calm_by; decide)) only [List.cons_append, List.nil_append, Ev_seq, Ev_region, Ev_skip, Ev_exit, Ev_ret, Ev_block, Ev_cond, Ev_ghost, Ev_draw_calm, GoOn_cmp, GoOn_nil, GoOn_thn, GoOn_thn_e, GoOn_thn_r, GoOn_blk, GoOn_blk_e, GoOn_blk_r, onN_n, onN_e, onN_r, Round_n, Round_e, Round_r, EvC_t, EvC_f, EvW_t, EvW_f, EvR_some, EvN_some, EvO_cons, EvO_nil, wanted, exec, put, passed, opd,
    List.length_cons, List.length_nil, Nat.zero_add, Nat.reduceAdd, List.replicate_succ, List.replicate_zero, List.set_cons_zero, List.set_cons_succ, List.getD_cons_zero, List.getD_cons_succ, Option.map_some, Option.map_none, List.map_cons, List.map_nil,
    bin_add, bin_sub, bin_mul, bin_eql, bin_neq, bin_lss, bin_leq, bin_gtr, bin_geq, bin_quo_nat, bin_rem_nat, bin_or_hi, bin_shr32, bin_shl32, lenV_slice, lenV_ref, ne_eq, not_false_eq_true, beq_true, beq_false, Bool.not_true, Bool.not_false, wrap_i64, wrap_u64, dec_t, dec_f, ite_t, ite_f, ibeq_t, ibeq_f, ibne_t, ibne_f, index_slice, index_ref, slice_slice_hi, slice_ref_hi, Int.natCast_add, Int.cast_ofNat_Int, Int.add_sub_cancel, Int.toNat_natCast, Int.toNat_natCast_add_one, Int.reduceToNat, Nat.mul_one, load_dg, shareL_dg, adoptV, if_true, if_false, ite_true, ite_false, Bool.true_eq, Bool.false_eq_true, beq_self_eq_true, reduceCtorEq, reduceIte, Nat.reduceMul, Nat.reduceSub, Nat.reduceLT, Nat.reduceLeDiff, Nat.reduceEqDiff, callV, takeArgs, takeV, lendArgs, lendV, lendVs, List.headD_cons, List.headD_nil, List.tail_cons, List.tail_nil, List.contains_cons, List.contains_nil, m_al, m_sl, m_ol, m_ll, m_la, m_ls, m_lo, Bool.or_false, Bool.or_true, Bool.false_or, Bool.true_or, idsL, ids, madeV, shareV, shareVs, adoptV, adoptVs, ownOnly, ownOnlyL, Bool.true_and, Bool.and_true, Bool.and_false, Bool.false_and, List.isEmpty_nil, List.isEmpty_cons, giveV, giveVs, Bool.not_false, Bool.not_true, reduceCtorEq, Bool.false_eq_true, if_false, if_true, comps, zeros, fill, layAt, List.zip_cons_cons, List.zip_nil_left, List.zip_nil_right, List.all_cons, List.all_nil, storable, List.append_nil, List.cons_append, List.nil_append, true_and, and_self, Nat.le_refl, Bool.and_self, giveVs, giveV, adoptV, madeV, Option.map_some, List.map_cons, List.map_nil, loadV_addr, Nat.add_zero, storeV, setCells, layAt, cellsAt, borrow, borrowL, cut, theRow, comps, giveVs, giveV, List.getElem?_cons_zero, List.getElem?_cons_succ, List.drop_zero, List.take_succ_cons, List.take_zero, List.take_nil, List.all_cons, List.all_nil, storable, scalarD, Bool.and_self, Bool.false_eq_true, if_false, if_true, and_true, true_and, and_self, Nat.le_refl, false_implies, forall_const, forall_false, imp_false, not_false_eq_true, adoptVs, adoptV, isU, nav, shareL_di, shareL_gblksO, gblksO_length, htk, htO, ownOnlyL_di, shareV, lendVs, lend_slice0, ts, tf]
  refine Ev_loop (fun m st => ∃ n : Nat, n + m = cnt (lens bs) ∧ ((m ≠ 0 ∧ st = ⟨[.undef, .undef, .addr 0 [] 0 0, .slice false 1 bs.length (di (wAt (lens bs) n)), .bool true, .int .u64 n, .undef, .undef, .undef, .undef], [], [some ⟨[.slice true 1 bs.length (gblksO bs)], false, 0, 1⟩], 0⟩) ∨
      (m = 0 ∧ st = ⟨[.undef, .undef, .addr 0 [] 0 0, .slice false 1 0 [], .bool false, .int .u64 n, .undef, .undef, .undef, .undef], [], [some ⟨[.slice true 1 bs.length (gblksO bs)], false, 0, 1⟩], 0⟩))) (cnt (lens bs)) ⟨0, by omega, .inl ⟨by omega, ?_⟩⟩ ?_
  · simp only [norm, keepLive, compact, List.range_zero, List.range_succ, List.nil_append, List.cons_append, List.append_nil, List.contains_cons, List.contains_nil, Bool.or_false, Bool.or_true, Bool.false_or, Bool.true_or, Nat.reduceBEq, beq_self_eq_true, idsL, ids, addId, List.filter_cons, List.filter_nil, decide_true, decide_false, List.map_cons, List.map_nil, maskD, within, withinL, mapD, mapL, subRows, getRow, List.idxOf_cons, List.idxOf_nil, cond_true, cond_false, Bool.and_true, Bool.true_and, if_true, if_false, Bool.false_eq_true, List.length_cons, List.length_nil, Nat.zero_add, Nat.reduceAdd, Nat.reduceLT, List.getD_cons_zero, List.getD_cons_succ, List.set_cons_zero, List.set_cons_succ, reduceIte, reduceCtorEq]; rfl
  rintro m st ⟨n, hn, ⟨hm, rfl⟩ | ⟨rfl, rfl⟩⟩
  · have hlt : n < cnt (lens bs) := by omega
    have hwl := wAt_length (lens bs) n
    rw [hll] at hwl
    have ti := gindex_ok h.1 bs (wAt (lens bs) n) hg hl63 (wAt_in _ _)
    rw [num_wAt, Nat.mod_eq_of_lt hlt, hwl] at ti
    have tu := from_ok h.1 n (by omega)
    have hln : (digs n).length ≤ 1 := digs_length_le (by omega)
    have ta := gatW_ok h.1 bs (digs n) hg hl63 (dig_digs _) (by omega) (by rw [val_digs]; exact hlt)
    rw [val_digs] at ta
    have tc := gcontains_ok h.1 bs (wAt (lens bs) n) hg hl63 (wAt_in _ _)
    rw [hwl] at tc
    have tm := cmp_ok h.1 (digs n) (digs n) (dig_digs _) (dig_digs _) (by omega) (by omega)
    have ec : cmpI (val (digs n)) (val (digs n)) = 0 := by simp [cmpI]
    rw [ec] at tm
    have tsw := sameWorld_ok h.1 (wAt (lens bs) n) (by omega)
    rw [hwl] at tsw
    have tn := gnext_ok h bs n hg hl63 hlt
    simp only [gsp, natO] at ti ta tc tn tu
    generalize hW : wAt (lens bs) n = V at *
    generalize digs n = N at *
    have hlt2 : n < 1000 := by omega
    simp -implicitDefEqProofs (maxSteps := 4000000) (disch := first | omega | (apply calm_by; decide)) only [List.cons_append, List.nil_append, Ev_seq, Ev_region, Ev_skip, Ev_exit, Ev_ret, Ev_block, Ev_cond, Ev_ghost, Ev_draw_calm, GoOn_cmp, GoOn_nil, GoOn_thn, GoOn_thn_e, GoOn_thn_r, GoOn_blk, GoOn_blk_e, GoOn_blk_r, onN_n, onN_e, onN_r, Round_n, Round_e, Round_r, EvC_t, EvC_f, EvW_t, EvW_f, EvR_some, EvN_some, EvO_cons, EvO_nil, wanted, exec, put, passed, opd,
    List.length_cons, List.length_nil, Nat.zero_add, Nat.reduceAdd, List.replicate_succ, List.replicate_zero, List.set_cons_zero, List.set_cons_succ, List.getD_cons_zero, List.getD_cons_succ, Option.map_some, Option.map_none, List.map_cons, List.map_nil,
    bin_add, bin_sub, bin_mul, bin_eql, bin_neq, bin_lss, bin_leq, bin_gtr, bin_geq, bin_quo_nat, bin_rem_nat, bin_or_hi, bin_shr32, bin_shl32, lenV_slice, lenV_ref, ne_eq, not_false_eq_true, beq_true, beq_false, Bool.not_true, Bool.not_false, wrap_i64, wrap_u64, dec_t, dec_f, ite_t, ite_f, ibeq_t, ibeq_f, ibne_t, ibne_f, index_slice, index_ref, slice_slice_hi, slice_ref_hi, Int.natCast_add, Int.cast_ofNat_Int, Int.add_sub_cancel, Int.toNat_natCast, Int.toNat_natCast_add_one, Int.reduceToNat, Nat.mul_one, load_dg, shareL_dg, adoptV, if_true, if_false, ite_true, ite_false, Bool.true_eq, Bool.false_eq_true, beq_self_eq_true, reduceCtorEq, reduceIte, Nat.reduceMul, Nat.reduceSub, Nat.reduceLT, Nat.reduceLeDiff, Nat.reduceEqDiff, Ev_drawn, EvD_cons, EvD_nil, EvDR_some, xd_move, xd_assign, xd_bin, xd_conv, xd_field, xd_index, xd_load, xd_len, xd_extract, xd_build, xd_call, xd_makeSlice, xd_buildSlice, xd_append, xd_store, execAt, opIds, AOp.opds, slotsAt, List.sum_cons, List.sum_nil, List.take_succ_cons, List.take_zero, List.take_nil, List.range'_succ, List.range'_zero, Nat.add_zero, maskD, within, withinL, mapD, mapL, subRows, getRow, writeBack, addId, List.contains_cons, List.contains_nil, Nat.reduceBEq, List.idxOf_cons, List.idxOf_nil, cond_true, cond_false, List.append_nil, List.replicate_succ, List.replicate_zero, List.set_cons_zero, List.set_cons_succ, callV, takeArgs, takeV, lendArgs, lendV, lendVs, List.headD_cons, List.headD_nil, List.tail_cons, List.tail_nil, List.contains_cons, List.contains_nil, m_al, m_sl, m_ol, m_ll, m_la, m_ls, m_lo, Bool.or_false, Bool.or_true, Bool.false_or, Bool.true_or, idsL, ids, madeV, shareV, shareVs, adoptV, adoptVs, ownOnly, ownOnlyL, Bool.true_and, Bool.and_true, Bool.and_false, Bool.false_and, List.isEmpty_nil, List.isEmpty_cons, giveV, giveVs, Bool.not_false, Bool.not_true, reduceCtorEq, Bool.false_eq_true, if_false, if_true, comps, zeros, fill, layAt, List.zip_cons_cons, List.zip_nil_left, List.zip_nil_right, List.all_cons, List.all_nil, storable, List.append_nil, List.cons_append, List.nil_append, true_and, and_self, Nat.le_refl, Bool.and_self, giveVs, giveV, adoptV, madeV, Option.map_some, List.map_cons, List.map_nil, loadV_addr, Nat.add_zero, storeV, setCells, layAt, cellsAt, borrow, borrowL, cut, theRow, comps, giveVs, giveV, List.getElem?_cons_zero, List.getElem?_cons_succ, List.drop_zero, List.take_succ_cons, List.take_zero, List.take_nil, List.all_cons, List.all_nil, storable, scalarD, Bool.and_self, Bool.false_eq_true, if_false, if_true, and_true, true_and, and_self, Nat.le_refl, false_implies, forall_const, forall_false, imp_false, not_false_eq_true, adoptVs, adoptV, isU, nav, un, shareL_di, shareL_dg, shareL_gblksO, gblksO_length, htk, htO, ownOnlyL_di, ownOnlyL_dg, shareV, shareVs, lendVs, lend_slice0, ti, tu, ta]
    refine ⟨rfl, ?_⟩
    simp only [norm, keepLive, compact, List.range_zero, List.range_succ, List.nil_append, List.cons_append, List.append_nil, List.contains_cons, List.contains_nil, Bool.or_false, Bool.or_true, Bool.false_or, Bool.true_or, Nat.reduceBEq, beq_self_eq_true, idsL, ids, addId, List.filter_cons, List.filter_nil, decide_true, decide_false, List.map_cons, List.map_nil, maskD, within, withinL, mapD, mapL, subRows, getRow, List.idxOf_cons, List.idxOf_nil, cond_true, cond_false, Bool.and_true, Bool.true_and, if_true, if_false, Bool.false_eq_true, List.length_cons, List.length_nil, Nat.zero_add, Nat.reduceAdd, Nat.reduceLT, List.getD_cons_zero, List.getD_cons_succ, List.set_cons_zero, List.set_cons_succ, reduceIte, reduceCtorEq]
    by_cases hn1 : n + 1 < cnt (lens bs)
    · rw [if_pos hn1] at tn
      simp -implicitDefEqProofs (maxSteps := 4000000) (disch := first | omega | (apply calm_by; decide)) only [List.cons_append, List.nil_append, Ev_seq, Ev_region, Ev_skip, Ev_exit, Ev_ret, Ev_block, Ev_cond, Ev_ghost, Ev_draw_calm, GoOn_cmp, GoOn_nil, GoOn_thn, GoOn_thn_e, GoOn_thn_r, GoOn_blk, GoOn_blk_e, GoOn_blk_r, onN_n, onN_e, onN_r, Round_n, Round_e, Round_r, EvC_t, EvC_f, EvW_t, EvW_f, EvR_some, EvN_some, EvO_cons, EvO_nil, wanted, exec, put, passed, opd,
    List.length_cons, List.length_nil, Nat.zero_add, Nat.reduceAdd, List.replicate_succ, List.replicate_zero, List.set_cons_zero, List.set_cons_succ, List.getD_cons_zero, List.getD_cons_succ, Option.map_some, Option.map_none, List.map_cons, List.map_nil,
    bin_add, bin_sub, bin_mul, bin_eql, bin_neq, bin_lss, bin_leq, bin_gtr, bin_geq, bin_quo_nat, bin_rem_nat, bin_or_hi, bin_shr32, bin_shl32, lenV_slice, lenV_ref, ne_eq, not_false_eq_true, beq_true, beq_false, Bool.not_true, Bool.not_false, wrap_i64, wrap_u64, dec_t, dec_f, ite_t, ite_f, ibeq_t, ibeq_f, ibne_t, ibne_f, index_slice, index_ref, slice_slice_hi, slice_ref_hi, Int.natCast_add, Int.cast_ofNat_Int, Int.add_sub_cancel, Int.toNat_natCast, Int.toNat_natCast_add_one, Int.reduceToNat, Nat.mul_one, load_dg, shareL_dg, adoptV, if_true, if_false, ite_true, ite_false, Bool.true_eq, Bool.false_eq_true, beq_self_eq_true, reduceCtorEq, reduceIte, Nat.reduceMul, Nat.reduceSub, Nat.reduceLT, Nat.reduceLeDiff, Nat.reduceEqDiff, norm, keepLive, compact, List.range_zero, List.range_succ, List.nil_append, List.cons_append, List.append_nil, List.contains_cons, List.contains_nil, Bool.or_false, Bool.or_true, Bool.false_or, Bool.true_or, Nat.reduceBEq, beq_self_eq_true, idsL, ids, addId, List.filter_cons, List.filter_nil, decide_true, decide_false, List.map_cons, List.map_nil, maskD, within, withinL, mapD, mapL, subRows, getRow, List.idxOf_cons, List.idxOf_nil, cond_true, cond_false, Bool.and_true, Bool.true_and, if_true, if_false, Bool.false_eq_true, List.length_cons, List.length_nil, Nat.zero_add, Nat.reduceAdd, Nat.reduceLT, List.getD_cons_zero, List.getD_cons_succ, List.set_cons_zero, List.set_cons_succ, reduceIte, reduceCtorEq, callV, takeArgs, takeV, lendArgs, lendV, lendVs, List.headD_cons, List.headD_nil, List.tail_cons, List.tail_nil, List.contains_cons, List.contains_nil, m_al, m_sl, m_ol, m_ll, m_la, m_ls, m_lo, Bool.or_false, Bool.or_true, Bool.false_or, Bool.true_or, idsL, ids, madeV, shareV, shareVs, adoptV, adoptVs, ownOnly, ownOnlyL, Bool.true_and, Bool.and_true, Bool.and_false, Bool.false_and, List.isEmpty_nil, List.isEmpty_cons, giveV, giveVs, Bool.not_false, Bool.not_true, reduceCtorEq, Bool.false_eq_true, if_false, if_true, comps, zeros, fill, layAt, List.zip_cons_cons, List.zip_nil_left, List.zip_nil_right, List.all_cons, List.all_nil, storable, List.append_nil, List.cons_append, List.nil_append, true_and, and_self, Nat.le_refl, Bool.and_self, giveVs, giveV, adoptV, madeV, Option.map_some, List.map_cons, List.map_nil, loadV_addr, Nat.add_zero, storeV, setCells, layAt, cellsAt, borrow, borrowL, cut, theRow, comps, giveVs, giveV, List.getElem?_cons_zero, List.getElem?_cons_succ, List.drop_zero, List.take_succ_cons, List.take_zero, List.take_nil, List.all_cons, List.all_nil, storable, scalarD, Bool.and_self, Bool.false_eq_true, if_false, if_true, and_true, true_and, and_self, Nat.le_refl, false_implies, forall_const, forall_false, imp_false, not_false_eq_true, adoptVs, adoptV, isU, nav, un, shareL, shareL_di, shareL_dg, shareL_gblksO, gblksO_length, htk, htO, ownOnlyL_di, ownOnlyL_dg, shareV, shareVs, lendVs, lend_slice0, tc, tu, tm, tsw, tn]
      exact ⟨m - 1, by omega, n + 1, by omega, .inl ⟨by omega, rfl⟩⟩
    · rw [if_neg hn1] at tn
      simp -implicitDefEqProofs (maxSteps := 4000000) (disch := first | omega | (apply calm_by; decide)) only [List.cons_append, List.nil_append, Ev_seq, Ev_region, Ev_skip, Ev_exit, Ev_ret, Ev_block, Ev_cond, Ev_ghost, Ev_draw_calm, GoOn_cmp, GoOn_nil, GoOn_thn, GoOn_thn_e, GoOn_thn_r, GoOn_blk, GoOn_blk_e, GoOn_blk_r, onN_n, onN_e, onN_r, Round_n, Round_e, Round_r, EvC_t, EvC_f, EvW_t, EvW_f, EvR_some, EvN_some, EvO_cons, EvO_nil, wanted, exec, put, passed, opd,
    List.length_cons, List.length_nil, Nat.zero_add, Nat.reduceAdd, List.replicate_succ, List.replicate_zero, List.set_cons_zero, List.set_cons_succ, List.getD_cons_zero, List.getD_cons_succ, Option.map_some, Option.map_none, List.map_cons, List.map_nil,
    bin_add, bin_sub, bin_mul, bin_eql, bin_neq, bin_lss, bin_leq, bin_gtr, bin_geq, bin_quo_nat, bin_rem_nat, bin_or_hi, bin_shr32, bin_shl32, lenV_slice, lenV_ref, ne_eq, not_false_eq_true, beq_true, beq_false, Bool.not_true, Bool.not_false, wrap_i64, wrap_u64, dec_t, dec_f, ite_t, ite_f, ibeq_t, ibeq_f, ibne_t, ibne_f, index_slice, index_ref, slice_slice_hi, slice_ref_hi, Int.natCast_add, Int.cast_ofNat_Int, Int.add_sub_cancel, Int.toNat_natCast, Int.toNat_natCast_add_one, Int.reduceToNat, Nat.mul_one, load_dg, shareL_dg, adoptV, if_true, if_false, ite_true, ite_false, Bool.true_eq, Bool.false_eq_true, beq_self_eq_true, reduceCtorEq, reduceIte, Nat.reduceMul, Nat.reduceSub, Nat.reduceLT, Nat.reduceLeDiff, Nat.reduceEqDiff, norm, keepLive, compact, List.range_zero, List.range_succ, List.nil_append, List.cons_append, List.append_nil, List.contains_cons, List.contains_nil, Bool.or_false, Bool.or_true, Bool.false_or, Bool.true_or, Nat.reduceBEq, beq_self_eq_true, idsL, ids, addId, List.filter_cons, List.filter_nil, decide_true, decide_false, List.map_cons, List.map_nil, maskD, within, withinL, mapD, mapL, subRows, getRow, List.idxOf_cons, List.idxOf_nil, cond_true, cond_false, Bool.and_true, Bool.true_and, if_true, if_false, Bool.false_eq_true, List.length_cons, List.length_nil, Nat.zero_add, Nat.reduceAdd, Nat.reduceLT, List.getD_cons_zero, List.getD_cons_succ, List.set_cons_zero, List.set_cons_succ, reduceIte, reduceCtorEq, callV, takeArgs, takeV, lendArgs, lendV, lendVs, List.headD_cons, List.headD_nil, List.tail_cons, List.tail_nil, List.contains_cons, List.contains_nil, m_al, m_sl, m_ol, m_ll, m_la, m_ls, m_lo, Bool.or_false, Bool.or_true, Bool.false_or, Bool.true_or, idsL, ids, madeV, shareV, shareVs, adoptV, adoptVs, ownOnly, ownOnlyL, Bool.true_and, Bool.and_true, Bool.and_false, Bool.false_and, List.isEmpty_nil, List.isEmpty_cons, giveV, giveVs, Bool.not_false, Bool.not_true, reduceCtorEq, Bool.false_eq_true, if_false, if_true, comps, zeros, fill, layAt, List.zip_cons_cons, List.zip_nil_left, List.zip_nil_right, List.all_cons, List.all_nil, storable, List.append_nil, List.cons_append, List.nil_append, true_and, and_self, Nat.le_refl, Bool.and_self, giveVs, giveV, adoptV, madeV, Option.map_some, List.map_cons, List.map_nil, loadV_addr, Nat.add_zero, storeV, setCells, layAt, cellsAt, borrow, borrowL, cut, theRow, comps, giveVs, giveV, List.getElem?_cons_zero, List.getElem?_cons_succ, List.drop_zero, List.take_succ_cons, List.take_zero, List.take_nil, List.all_cons, List.all_nil, storable, scalarD, Bool.and_self, Bool.false_eq_true, if_false, if_true, and_true, true_and, and_self, Nat.le_refl, false_implies, forall_const, forall_false, imp_false, not_false_eq_true, adoptVs, adoptV, isU, nav, un, shareL, shareL_di, shareL_dg, shareL_gblksO, gblksO_length, htk, htO, ownOnlyL_di, ownOnlyL_dg, shareV, shareVs, lendVs, lend_slice0, tc, tu, tm, tsw, tn]
      exact ⟨0, by omega, n + 1, by omega, .inr ⟨rfl, rfl⟩⟩
  · have tu := from_ok h.1 n (by omega)
    rw [Nat.add_zero] at hn
    rw [← hn] at tcnt hcb
    have hln : (digs n).length ≤ 1 := digs_length_le (by omega)
    have tm := cmp_ok h.1 (digs n) (digs n) (dig_digs _) (dig_digs _) (by omega) (by omega)
    have ec : cmpI (val (digs n)) (val (digs n)) = 0 := by simp [cmpI]
    rw [ec] at tm
    simp only [natO] at tu
    generalize digs n = N at *
    simp -implicitDefEqProofs (maxSteps := 4000000) (disch := first | omega | (apply calm_by; decide)) only [List.cons_append, List.nil_append, Ev_seq, Ev_region, Ev_skip, Ev_exit, Ev_ret, Ev_block, Ev_cond, Ev_ghost, Ev_draw_calm, GoOn_cmp, GoOn_nil, GoOn_thn, GoOn_thn_e, GoOn_thn_r, GoOn_blk, GoOn_blk_e, GoOn_blk_r, onN_n, onN_e, onN_r, Round_n, Round_e, Round_r, EvC_t, EvC_f, EvW_t, EvW_f, EvR_some, EvN_some, EvO_cons, EvO_nil, wanted, exec, put, passed, opd,
    List.length_cons, List.length_nil, Nat.zero_add, Nat.reduceAdd, List.replicate_succ, List.replicate_zero, List.set_cons_zero, List.set_cons_succ, List.getD_cons_zero, List.getD_cons_succ, Option.map_some, Option.map_none, List.map_cons, List.map_nil,
    bin_add, bin_sub, bin_mul, bin_eql, bin_neq, bin_lss, bin_leq, bin_gtr, bin_geq, bin_quo_nat, bin_rem_nat, bin_or_hi, bin_shr32, bin_shl32, lenV_slice, lenV_ref, ne_eq, not_false_eq_true, beq_true, beq_false, Bool.not_true, Bool.not_false, wrap_i64, wrap_u64, dec_t, dec_f, ite_t, ite_f, ibeq_t, ibeq_f, ibne_t, ibne_f, index_slice, index_ref, slice_slice_hi, slice_ref_hi, Int.natCast_add, Int.cast_ofNat_Int, Int.add_sub_cancel, Int.toNat_natCast, Int.toNat_natCast_add_one, Int.reduceToNat, Nat.mul_one, load_dg, shareL_dg, adoptV, if_true, if_false, ite_true, ite_false, Bool.true_eq, Bool.false_eq_true, beq_self_eq_true, reduceCtorEq, reduceIte, Nat.reduceMul, Nat.reduceSub, Nat.reduceLT, Nat.reduceLeDiff, Nat.reduceEqDiff, callV, takeArgs, takeV, lendArgs, lendV, lendVs, List.headD_cons, List.headD_nil, List.tail_cons, List.tail_nil, List.contains_cons, List.contains_nil, m_al, m_sl, m_ol, m_ll, m_la, m_ls, m_lo, Bool.or_false, Bool.or_true, Bool.false_or, Bool.true_or, idsL, ids, madeV, shareV, shareVs, adoptV, adoptVs, ownOnly, ownOnlyL, Bool.true_and, Bool.and_true, Bool.and_false, Bool.false_and, List.isEmpty_nil, List.isEmpty_cons, giveV, giveVs, Bool.not_false, Bool.not_true, reduceCtorEq, Bool.false_eq_true, if_false, if_true, comps, zeros, fill, layAt, List.zip_cons_cons, List.zip_nil_left, List.zip_nil_right, List.all_cons, List.all_nil, storable, List.append_nil, List.cons_append, List.nil_append, true_and, and_self, Nat.le_refl, Bool.and_self, giveVs, giveV, adoptV, madeV, Option.map_some, List.map_cons, List.map_nil, loadV_addr, Nat.add_zero, storeV, setCells, layAt, cellsAt, borrow, borrowL, cut, theRow, comps, giveVs, giveV, List.getElem?_cons_zero, List.getElem?_cons_succ, List.drop_zero, List.take_succ_cons, List.take_zero, List.take_nil, List.all_cons, List.all_nil, storable, scalarD, Bool.and_self, Bool.false_eq_true, if_false, if_true, and_true, true_and, and_self, Nat.le_refl, false_implies, forall_const, forall_false, imp_false, not_false_eq_true, adoptVs, adoptV, dg_length, take_dg, List.take_length, ends_n, ends_r, results, resVs, resV, giveV, giveVs, shareV, theRow, List.getElem?_cons_zero, List.getElem?_cons_succ, Option.map_some, List.take_zero, List.take_nil, List.take_succ_cons, isU, nav, un, shareL, shareL_di, shareL_dg, shareL_gblksO, gblksO_length, htk, htO, ownOnlyL_di, ownOnlyL_dg, shareV, shareVs, lendVs, lend_slice0, tcnt, tu, tm, hkn]
end
end Av

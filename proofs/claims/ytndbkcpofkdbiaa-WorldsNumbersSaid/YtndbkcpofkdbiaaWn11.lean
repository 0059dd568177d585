/- A part of the proof: WorldsNumbers: for every input the law returns true and every argument reads behind the call as it read before. Conditions: none. -/
import Derived.Test.YtndbkcpofkdbiaaWn9
import Derived.Test.YtndbkcpofkdbiaaWn1
import Derived.Test.YtndbkcpofkdbiaaWn2
import Derived.ProofKit
import Derived.ChangeSlices
set_option linter.all false
namespace Av
open Go Go.ChangeShapes Go.WideShapes Go.RowKit
section
variable {H : Type} {enc : TypeId × Value → H} {P : Program}

/-- All that lies in the memory. -/
def allOf (W : World) : FZ := fun b o => (W.cell? ⟨b, o, none⟩).isSome = true
theorem fok_all (W : World) : FOK W (allOf W) := fun _ _ h => h

theorem relL_ints (w : World) (F : FZ) (fm : Nat → Nat) (k : IntKind) : ∀ (zs : List Int), RelL w F fm L0 (zs.map fun z => .int k z) (zs.map fun z => .int k z) (fun _ => 0)
  | [] => by simp only [List.map_nil]; unfold RelL; exact ⟨rfl, Zero.of_zero⟩
  | z :: zs => by
    simp only [List.map_cons]
    unfold RelL
    exact ⟨_, _, fun _ => 0, fun _ => 0, rfl, by unfold Rel; exact ⟨rfl, Zero.of_zero⟩, relL_ints w F fm k zs, fun _ => rfl⟩

theorem rel_nil (w : World) (F : FZ) (fm : Nat → Nat) (L : Loc) : Rel w F fm L (.slice false 1 0 []) (.slice none 0 0) (fun _ => 0) := by
  unfold Rel
  exact ⟨Zero.of_zero, rfl, none, 0, rfl, Nat.le_refl _, .inl rfl⟩

theorem rel_ints (W : World) (fm : Nat → Nat) (L : Loc) {k : IntKind} {a : Addr} {len cap : Nat} {zs : List Int} (hl : len ≤ cap) (hz : zs.length = cap) (hcell : ∀ i, i < zs.length → W.cell? (a.add i) = some (.int k (zs.getD i 0))) :
    Rel W (allOf W) fm L (.slice false 1 len ((zs.take len).map fun z => .int k z)) (.slice (some a) len cap) (fun _ => 0) := by
  unfold Rel
  refine ⟨Zero.of_zero, by simp; omega, some a, cap, rfl, hl, ?_⟩
  rcases Nat.eq_zero_or_pos len with h0 | h0
  · exact .inl (by subst h0; simp)
  right
  have h1 := hcell 0 (by omega)
  obtain ⟨b, off, spot⟩ := a
  have hspot : spot = none := by simpa [Addr.add] using World.cell?_spot h1
  subst hspot
  refine ⟨⟨b, off, none⟩, (zs.take len).map fun z => .int k z, rfl, rfl, ?_, ?_, relL_ints _ _ _ _ _⟩
  · intro v hv
    obtain ⟨z, _, rfl⟩ := List.mem_map.1 hv
    rfl
  · intro j hj
    have hj2 : j < len := by simp at hj; omega
    have h := hcell j (by omega)
    rw [add_plain] at h
    have e : ((zs.take len).map fun z => Value.int k z)[j] = .int k (zs.getD j 0) := by
      simp [List.getD_eq_getElem?_getD, show j < zs.length by omega]
    rw [e]
    refine ⟨h, ?_⟩
    unfold allOf
    rw [h]; rfl

theorem ext_below {w w' : World} {F F' : FZ} {L L' : Loc} {X X' : Cnt} (h : Ext w F L X w' F' L' X') (hX : ∀ b, X b = 0) : Below w.heap.size w w' :=
  ⟨h.os, h.tape, h.output, h.size, fun b hb => h.same b hb (hX b)⟩

/-- What was read of the arguments reads behind the call as it read. -/
theorem trodAll_below (hl : laidOutB P = true) {W W' : World} (hb : Below W.heap.size W W') : ∀ {ts : List TypeId} {vs : List Value} {ds : List (DataW H)} {ps : List MemPlace},
    (∀ t ∈ ts, P.readableRec t = true ∧ t < P.types.size) → (∀ x ∈ ps, x.block < W.heap.size) → DataW.TrodAll enc P W 0 (fun _ => true) true ts vs ds ps →
    DataW.TrodAll enc P W' 0 (fun b => decide (b < W.heap.size)) true ts vs ds ps
  | [], _, _, _, _, _, h => by
    obtain ⟨rfl, rfl, rfl⟩ := trodAll_nil h
    exact trodAll_mk0
  | t :: ts, _, _, _, ht, hp, h => by
    obtain ⟨v, vs, d, ds, p, q, rfl, rfl, rfl, h1, h2⟩ := trodAll_cons h
    obtain ⟨r1, r2⟩ := ht t (by simp)
    exact ⟨p, q, Below.trod hl r1 r2 h1 hb (fun x hx => hp x (by simp [hx])), trodAll_below hl hb (fun t h => ht t (by simp [h])) (fun x hx => hp x (by simp [hx])) h2, rfl⟩

/-- A law that the machine answers with true. -/
theorem law_calls {fm : Nat → Nat} {T : Nat → Option Fun} (hm : P.follows .mixedOrders = true) (hT : TabOK P fm T) {g : Nat} {f : AFn} (hf : T g = some (.code f)) {args : List D} {vs : List Value} {W : World}
    (ha : ∀ L, RelL W (allOf W) fm L args vs (fun _ => 0)) (h : callW T g args [] = some (.bool true, [])) :
    Calls P (fm g) vs.toArray W fun e w' => e = .returned (.bool true) ∧ Below W.heap.size W w' := by
  obtain ⟨k, hk⟩ := callW_iff.1 h
  have hR : RowsRel W (allOf W) fm [] [] (fun _ => 0) := by unfold RowsRel; exact ⟨rfl, Zero.of_zero⟩
  refine (call_ok hm hT hf hk hR (Y := fun _ => 0) ?_ (fun _ => Nat.zero_le _) (fok_all W)).mono fun e w' ⟨v, he, hA⟩ => ?_
  · exact ha _
  · obtain ⟨F', ms', X', Y', _, h2, _, _, h5⟩ := hA
    unfold Rel at h2
    obtain ⟨rfl, _⟩ := h2
    exact ⟨he, ext_below h5 fun _ => rfl⟩
theorem wf_u32 {z : Int} (h : (Lit.int .u32 z).wf = true) : 0 ≤ z ∧ z < 4294967296 := by
  simp only [Lit.wf, Bool.and_eq_true, decide_eq_true_eq] at h
  obtain ⟨h1, h2⟩ := h
  have e1 : IntKind.u32.min = 0 := by decide
  have e2 : IntKind.u32.max = 4294967295 := by decide
  omega
theorem wf_u8 {z : Int} (h : (Lit.int .u8 z).wf = true) : 0 ≤ z ∧ z < 256 := by
  simp only [Lit.wf, Bool.and_eq_true, decide_eq_true_eq] at h
  obtain ⟨h1, h2⟩ := h
  have e1 : IntKind.u8.min = 0 := by decide
  have e2 : IntKind.u8.max = 255 := by decide
  omega

/-- A slice of int, nil or not. -/
theorem open_di {W : World} {base : Nat} {t e : TypeId} {k : IntKind} {v : Value} {d : DataW H} {p : List MemPlace} (fm : Nat → Nat) (ht : P.underlying t = some (.slice e)) (he : P.underlying e = some (.int k)) (hc : P.cellsOf e = 1)
    (hv : Value.okWide P W .any base t v) (h : DataW.Trod enc P W 0 (fun _ => true) true t v d p) :
    ∃ zs : List Int, zs.length < 2 ^ 63 ∧ (∀ z ∈ zs, (Lit.int k z).wf = true) ∧ ∀ L, Rel W (allOf W) fm L (.slice false 1 zs.length (zs.map fun z => .int k z)) v (fun _ => 0) := by
  obtain ⟨a0, len, cap, rfl⟩ := okWide_slice ht hv
  obtain ⟨fuel, hf⟩ := h
  rcases open_ints ht he hc hf with ⟨hcs, hx⟩ | ⟨a, len', cap', zs, hcs, _, hl, hm, hz, hx, hcell, hwz⟩
  · simp [Value.cells] at hcs
    obtain ⟨rfl, rfl, rfl⟩ := hcs
    exact ⟨[], Nat.two_pow_pos 63, by simp, fun L => rel_nil _ _ _ _⟩
  · simp [Value.cells] at hcs
    obtain ⟨rfl, rfl, rfl⟩ := hcs
    simp only [if_true] at hz
    have hml : maxLen = 9223372036854775807 := rfl
    have e1 : (zs.take len).length = len := by rw [List.length_take]; omega
    refine ⟨zs.take len, by omega, fun z hz => hwz z (List.mem_of_mem_take hz), fun L => ?_⟩
    rw [e1]
    exact rel_ints W fm L hl hz hcell

theorem dg_of {zs : List Int} (h : ∀ z ∈ zs, (Lit.int .u32 z).wf = true) : (zs.map fun z => D.int .u32 z) = dg (zs.map Int.toNat) ∧ Dig (zs.map Int.toNat) := by
  constructor
  · unfold dg
    rw [List.map_map]
    refine List.map_congr_left fun z hz => ?_
    have := wf_u32 (h z hz)
    simp only [Function.comp]
    rw [Int.toNat_of_nonneg this.1]
  · intro x hx
    obtain ⟨z, hz, rfl⟩ := List.mem_map.1 hx
    have := wf_u32 (h z hz)
    omega

end
end Av
namespace Av
open Go
set_option linter.unusedSimpArgs false
set_option linter.unusedVariables false
theorem load_blk1 (rows : Rows) (ks : List Nat) (i : Nat) (h : i < ks.length) : loadV rows false 1 (.faddr (blks ks) i) = some (blk (ks.getD i 0)) := load_faddr _ _ _ _ (by simp [blks, h])
/-- A world of a space. -/
def InW (ks : List Nat) (w : List Int) : Prop := w.length = ks.length ∧ ∀ i, i < ks.length → -1 ≤ w.getD i 0 ∧ w.getD i 0 < ks.getD i 0
section
variable {T : Nat → Option Fun}
theorem sameWorld_ok (h : Has1 T) (w : List Int) (hl : w.length < 2 ^ 62) : callW T 43 [.slice false 1 w.length (di w), .slice false 1 w.length (di w)] [] = some (.bool true, []) := by
  refine callW_ev (h 43 (.code F.f43) rfl) rfl ?_
  simp only [F.f43, adoptVs, adoptV, List.cons_append, List.nil_append]
  simp -implicitDefEqProofs (disch := first | omega | (apply calm_by; decide)) only [List.cons_append, List.nil_append, Ev_seq, Ev_region, Ev_skip, Ev_exit, Ev_ret, Ev_block, Ev_cond, Ev_ghost, Ev_draw_calm, GoOn_cmp, GoOn_nil, GoOn_thn, GoOn_thn_e, GoOn_thn_r, GoOn_blk, GoOn_blk_e, GoOn_blk_r, onN_n, onN_e, onN_r, Round_n, Round_e, Round_r, EvC_t, EvC_f, EvW_t, EvW_f, EvR_some, EvN_some, EvO_cons, EvO_nil, wanted, exec, put, passed, opd,
    List.length_cons, List.length_nil, Nat.zero_add, Nat.reduceAdd, List.replicate_succ, List.replicate_zero, List.set_cons_zero, List.set_cons_succ, List.getD_cons_zero, List.getD_cons_succ, Option.map_some, Option.map_none, List.map_cons, List.map_nil,
    bin_add, bin_sub, bin_mul, bin_eql, bin_neq, bin_lss, bin_leq, bin_gtr, bin_geq, bin_quo_nat, bin_rem_nat, bin_or_hi, bin_shr32, bin_shl32, lenV_slice, lenV_ref, ne_eq, not_false_eq_true, beq_true, beq_false, Bool.not_true, Bool.not_false, wrap_i64, wrap_u64, dec_t, dec_f, ite_t, ite_f, ibeq_t, ibeq_f, ibne_t, ibne_f, index_slice, index_ref, slice_slice_hi, slice_ref_hi, Int.natCast_add, Int.cast_ofNat_Int, Int.add_sub_cancel, Int.toNat_natCast, Int.toNat_natCast_add_one, Int.reduceToNat, Nat.mul_one, load_dg, shareL_dg, adoptV, if_true, if_false, ite_true, ite_false, Bool.true_eq, Bool.false_eq_true, beq_self_eq_true, reduceCtorEq, reduceIte, Nat.reduceMul, Nat.reduceSub, Nat.reduceLT, Nat.reduceLeDiff, Nat.reduceEqDiff, callV, takeArgs, takeV, lendArgs, lendV, lendVs, List.headD_cons, List.headD_nil, List.tail_cons, List.tail_nil, List.contains_cons, List.contains_nil, m_al, m_sl, m_ol, m_ll, m_la, m_ls, m_lo, Bool.or_false, Bool.or_true, Bool.false_or, Bool.true_or, idsL, ids, madeV, shareV, shareVs, adoptV, adoptVs, ownOnly, ownOnlyL, Bool.true_and, Bool.and_true, Bool.and_false, Bool.false_and, List.isEmpty_nil, List.isEmpty_cons, giveV, giveVs, Bool.not_false, Bool.not_true, reduceCtorEq, Bool.false_eq_true, if_false, if_true]
  refine Ev_loop (fun n st => ∃ i : Nat, i + n = w.length ∧ st = ⟨[.slice false 1 w.length (di w), .slice false 1 w.length (di w), .undef, .int .i64 i], [], [], 0⟩) w.length ⟨0, by omega, ?_⟩ ?_
  · simp only [norm, keepLive, compact, List.range_zero, List.range_succ, List.nil_append, List.cons_append, List.append_nil, List.contains_cons, List.contains_nil, Bool.or_false, Bool.or_true, Bool.false_or, Bool.true_or, Nat.reduceBEq, beq_self_eq_true, idsL, ids, addId, List.filter_cons, List.filter_nil, decide_true, decide_false, List.map_cons, List.map_nil, maskD, within, withinL, mapD, mapL, subRows, getRow, List.idxOf_cons, List.idxOf_nil, cond_true, cond_false, Bool.and_true, Bool.true_and, if_true, if_false, Bool.false_eq_true, List.length_cons, List.length_nil, Nat.zero_add, Nat.reduceAdd, Nat.reduceLT, List.getD_cons_zero, List.getD_cons_succ, List.set_cons_zero, List.set_cons_succ, reduceIte, reduceCtorEq]; rfl
  rintro n st ⟨i, hi, rfl⟩
  cases n with
  | zero => simp -implicitDefEqProofs (disch := first | omega | (apply calm_by; decide)) only [List.cons_append, List.nil_append, Ev_seq, Ev_region, Ev_skip, Ev_exit, Ev_ret, Ev_block, Ev_cond, Ev_ghost, Ev_draw_calm, GoOn_cmp, GoOn_nil, GoOn_thn, GoOn_thn_e, GoOn_thn_r, GoOn_blk, GoOn_blk_e, GoOn_blk_r, onN_n, onN_e, onN_r, Round_n, Round_e, Round_r, EvC_t, EvC_f, EvW_t, EvW_f, EvR_some, EvN_some, EvO_cons, EvO_nil, wanted, exec, put, passed, opd,
    List.length_cons, List.length_nil, Nat.zero_add, Nat.reduceAdd, List.replicate_succ, List.replicate_zero, List.set_cons_zero, List.set_cons_succ, List.getD_cons_zero, List.getD_cons_succ, Option.map_some, Option.map_none, List.map_cons, List.map_nil,
    bin_add, bin_sub, bin_mul, bin_eql, bin_neq, bin_lss, bin_leq, bin_gtr, bin_geq, bin_quo_nat, bin_rem_nat, bin_or_hi, bin_shr32, bin_shl32, lenV_slice, lenV_ref, ne_eq, not_false_eq_true, beq_true, beq_false, Bool.not_true, Bool.not_false, wrap_i64, wrap_u64, dec_t, dec_f, ite_t, ite_f, ibeq_t, ibeq_f, ibne_t, ibne_f, index_slice, index_ref, slice_slice_hi, slice_ref_hi, Int.natCast_add, Int.cast_ofNat_Int, Int.add_sub_cancel, Int.toNat_natCast, Int.toNat_natCast_add_one, Int.reduceToNat, Nat.mul_one, load_dg, shareL_dg, adoptV, if_true, if_false, ite_true, ite_false, Bool.true_eq, Bool.false_eq_true, beq_self_eq_true, reduceCtorEq, reduceIte, Nat.reduceMul, Nat.reduceSub, Nat.reduceLT, Nat.reduceLeDiff, Nat.reduceEqDiff, callV, takeArgs, takeV, lendArgs, lendV, lendVs, List.headD_cons, List.headD_nil, List.tail_cons, List.tail_nil, List.contains_cons, List.contains_nil, m_al, m_sl, m_ol, m_ll, m_la, m_ls, m_lo, Bool.or_false, Bool.or_true, Bool.false_or, Bool.true_or, idsL, ids, madeV, shareV, shareVs, adoptV, adoptVs, ownOnly, ownOnlyL, Bool.true_and, Bool.and_true, Bool.and_false, Bool.false_and, List.isEmpty_nil, List.isEmpty_cons, giveV, giveVs, Bool.not_false, Bool.not_true, reduceCtorEq, Bool.false_eq_true, if_false, if_true, dg_length, take_dg, List.take_length, ends_n, ends_r, results, resVs, resV, giveV, giveVs, shareV, theRow, List.getElem?_cons_zero, List.getElem?_cons_succ, Option.map_some, List.take_zero, List.take_nil, List.take_succ_cons]
  | succ n =>
    have ld := load_di [] w i (by omega)
    simp -implicitDefEqProofs (disch := first | omega | (apply calm_by; decide)) only [List.cons_append, List.nil_append, Ev_seq, Ev_region, Ev_skip, Ev_exit, Ev_ret, Ev_block, Ev_cond, Ev_ghost, Ev_draw_calm, GoOn_cmp, GoOn_nil, GoOn_thn, GoOn_thn_e, GoOn_thn_r, GoOn_blk, GoOn_blk_e, GoOn_blk_r, onN_n, onN_e, onN_r, Round_n, Round_e, Round_r, EvC_t, EvC_f, EvW_t, EvW_f, EvR_some, EvN_some, EvO_cons, EvO_nil, wanted, exec, put, passed, opd,
    List.length_cons, List.length_nil, Nat.zero_add, Nat.reduceAdd, List.replicate_succ, List.replicate_zero, List.set_cons_zero, List.set_cons_succ, List.getD_cons_zero, List.getD_cons_succ, Option.map_some, Option.map_none, List.map_cons, List.map_nil,
    bin_add, bin_sub, bin_mul, bin_eql, bin_neq, bin_lss, bin_leq, bin_gtr, bin_geq, bin_quo_nat, bin_rem_nat, bin_or_hi, bin_shr32, bin_shl32, lenV_slice, lenV_ref, ne_eq, not_false_eq_true, beq_true, beq_false, Bool.not_true, Bool.not_false, wrap_i64, wrap_u64, dec_t, dec_f, ite_t, ite_f, ibeq_t, ibeq_f, ibne_t, ibne_f, index_slice, index_ref, slice_slice_hi, slice_ref_hi, Int.natCast_add, Int.cast_ofNat_Int, Int.add_sub_cancel, Int.toNat_natCast, Int.toNat_natCast_add_one, Int.reduceToNat, Nat.mul_one, load_dg, shareL_dg, adoptV, if_true, if_false, ite_true, ite_false, Bool.true_eq, Bool.false_eq_true, beq_self_eq_true, reduceCtorEq, reduceIte, Nat.reduceMul, Nat.reduceSub, Nat.reduceLT, Nat.reduceLeDiff, Nat.reduceEqDiff, callV, takeArgs, takeV, lendArgs, lendV, lendVs, List.headD_cons, List.headD_nil, List.tail_cons, List.tail_nil, List.contains_cons, List.contains_nil, m_al, m_sl, m_ol, m_ll, m_la, m_ls, m_lo, Bool.or_false, Bool.or_true, Bool.false_or, Bool.true_or, idsL, ids, madeV, shareV, shareVs, adoptV, adoptVs, ownOnly, ownOnlyL, Bool.true_and, Bool.and_true, Bool.and_false, Bool.false_and, List.isEmpty_nil, List.isEmpty_cons, giveV, giveVs, Bool.not_false, Bool.not_true, reduceCtorEq, Bool.false_eq_true, if_false, if_true, norm, keepLive, compact, List.range_zero, List.range_succ, List.nil_append, List.cons_append, List.append_nil, List.contains_cons, List.contains_nil, Bool.or_false, Bool.or_true, Bool.false_or, Bool.true_or, Nat.reduceBEq, beq_self_eq_true, idsL, ids, addId, List.filter_cons, List.filter_nil, decide_true, decide_false, List.map_cons, List.map_nil, maskD, within, withinL, mapD, mapL, subRows, getRow, List.idxOf_cons, List.idxOf_nil, cond_true, cond_false, Bool.and_true, Bool.true_and, if_true, if_false, Bool.false_eq_true, List.length_cons, List.length_nil, Nat.zero_add, Nat.reduceAdd, Nat.reduceLT, List.getD_cons_zero, List.getD_cons_succ, List.set_cons_zero, List.set_cons_succ, reduceIte, reduceCtorEq, shareL_di, ld]
    exact ⟨n, by omega, i + 1, by omega, rfl⟩
theorem natSame_ok (h : Has1 T) (w : List Nat) (hl : w.length < 2 ^ 62) : callW T 42 [.slice false 1 w.length (dg w), .slice false 1 w.length (dg w)] [] = some (.bool true, []) := by
  refine callW_ev (h 42 (.code F.f42) rfl) rfl ?_
  simp only [F.f42, adoptVs, adoptV, List.cons_append, List.nil_append]
  simp -implicitDefEqProofs (disch := first | omega | (apply calm_by; decide)) only [List.cons_append, List.nil_append, Ev_seq, Ev_region, Ev_skip, Ev_exit, Ev_ret, Ev_block, Ev_cond, Ev_ghost, Ev_draw_calm, GoOn_cmp, GoOn_nil, GoOn_thn, GoOn_thn_e, GoOn_thn_r, GoOn_blk, GoOn_blk_e, GoOn_blk_r, onN_n, onN_e, onN_r, Round_n, Round_e, Round_r, EvC_t, EvC_f, EvW_t, EvW_f, EvR_some, EvN_some, EvO_cons, EvO_nil, wanted, exec, put, passed, opd,
    List.length_cons, List.length_nil, Nat.zero_add, Nat.reduceAdd, List.replicate_succ, List.replicate_zero, List.set_cons_zero, List.set_cons_succ, List.getD_cons_zero, List.getD_cons_succ, Option.map_some, Option.map_none, List.map_cons, List.map_nil,
    bin_add, bin_sub, bin_mul, bin_eql, bin_neq, bin_lss, bin_leq, bin_gtr, bin_geq, bin_quo_nat, bin_rem_nat, bin_or_hi, bin_shr32, bin_shl32, lenV_slice, lenV_ref, ne_eq, not_false_eq_true, beq_true, beq_false, Bool.not_true, Bool.not_false, wrap_i64, wrap_u64, dec_t, dec_f, ite_t, ite_f, ibeq_t, ibeq_f, ibne_t, ibne_f, index_slice, index_ref, slice_slice_hi, slice_ref_hi, Int.natCast_add, Int.cast_ofNat_Int, Int.add_sub_cancel, Int.toNat_natCast, Int.toNat_natCast_add_one, Int.reduceToNat, Nat.mul_one, load_dg, shareL_dg, adoptV, if_true, if_false, ite_true, ite_false, Bool.true_eq, Bool.false_eq_true, beq_self_eq_true, reduceCtorEq, reduceIte, Nat.reduceMul, Nat.reduceSub, Nat.reduceLT, Nat.reduceLeDiff, Nat.reduceEqDiff, callV, takeArgs, takeV, lendArgs, lendV, lendVs, List.headD_cons, List.headD_nil, List.tail_cons, List.tail_nil, List.contains_cons, List.contains_nil, m_al, m_sl, m_ol, m_ll, m_la, m_ls, m_lo, Bool.or_false, Bool.or_true, Bool.false_or, Bool.true_or, idsL, ids, madeV, shareV, shareVs, adoptV, adoptVs, ownOnly, ownOnlyL, Bool.true_and, Bool.and_true, Bool.and_false, Bool.false_and, List.isEmpty_nil, List.isEmpty_cons, giveV, giveVs, Bool.not_false, Bool.not_true, reduceCtorEq, Bool.false_eq_true, if_false, if_true]
  refine Ev_loop (fun n st => ∃ i : Nat, i + n = w.length ∧ st = ⟨[.slice false 1 w.length (dg w), .slice false 1 w.length (dg w), .undef, .int .i64 i], [], [], 0⟩) w.length ⟨0, by omega, ?_⟩ ?_
  · simp only [norm, keepLive, compact, List.range_zero, List.range_succ, List.nil_append, List.cons_append, List.append_nil, List.contains_cons, List.contains_nil, Bool.or_false, Bool.or_true, Bool.false_or, Bool.true_or, Nat.reduceBEq, beq_self_eq_true, idsL, ids, addId, List.filter_cons, List.filter_nil, decide_true, decide_false, List.map_cons, List.map_nil, maskD, within, withinL, mapD, mapL, subRows, getRow, List.idxOf_cons, List.idxOf_nil, cond_true, cond_false, Bool.and_true, Bool.true_and, if_true, if_false, Bool.false_eq_true, List.length_cons, List.length_nil, Nat.zero_add, Nat.reduceAdd, Nat.reduceLT, List.getD_cons_zero, List.getD_cons_succ, List.set_cons_zero, List.set_cons_succ, reduceIte, reduceCtorEq]; rfl
  rintro n st ⟨i, hi, rfl⟩
  cases n with
  | zero => simp -implicitDefEqProofs (disch := first | omega | (apply calm_by; decide)) only [List.cons_append, List.nil_append, Ev_seq, Ev_region, Ev_skip, Ev_exit, Ev_ret, Ev_block, Ev_cond, Ev_ghost, Ev_draw_calm, GoOn_cmp, GoOn_nil, GoOn_thn, GoOn_thn_e, GoOn_thn_r, GoOn_blk, GoOn_blk_e, GoOn_blk_r, onN_n, onN_e, onN_r, Round_n, Round_e, Round_r, EvC_t, EvC_f, EvW_t, EvW_f, EvR_some, EvN_some, EvO_cons, EvO_nil, wanted, exec, put, passed, opd,
    List.length_cons, List.length_nil, Nat.zero_add, Nat.reduceAdd, List.replicate_succ, List.replicate_zero, List.set_cons_zero, List.set_cons_succ, List.getD_cons_zero, List.getD_cons_succ, Option.map_some, Option.map_none, List.map_cons, List.map_nil,
    bin_add, bin_sub, bin_mul, bin_eql, bin_neq, bin_lss, bin_leq, bin_gtr, bin_geq, bin_quo_nat, bin_rem_nat, bin_or_hi, bin_shr32, bin_shl32, lenV_slice, lenV_ref, ne_eq, not_false_eq_true, beq_true, beq_false, Bool.not_true, Bool.not_false, wrap_i64, wrap_u64, dec_t, dec_f, ite_t, ite_f, ibeq_t, ibeq_f, ibne_t, ibne_f, index_slice, index_ref, slice_slice_hi, slice_ref_hi, Int.natCast_add, Int.cast_ofNat_Int, Int.add_sub_cancel, Int.toNat_natCast, Int.toNat_natCast_add_one, Int.reduceToNat, Nat.mul_one, load_dg, shareL_dg, adoptV, if_true, if_false, ite_true, ite_false, Bool.true_eq, Bool.false_eq_true, beq_self_eq_true, reduceCtorEq, reduceIte, Nat.reduceMul, Nat.reduceSub, Nat.reduceLT, Nat.reduceLeDiff, Nat.reduceEqDiff, callV, takeArgs, takeV, lendArgs, lendV, lendVs, List.headD_cons, List.headD_nil, List.tail_cons, List.tail_nil, List.contains_cons, List.contains_nil, m_al, m_sl, m_ol, m_ll, m_la, m_ls, m_lo, Bool.or_false, Bool.or_true, Bool.false_or, Bool.true_or, idsL, ids, madeV, shareV, shareVs, adoptV, adoptVs, ownOnly, ownOnlyL, Bool.true_and, Bool.and_true, Bool.and_false, Bool.false_and, List.isEmpty_nil, List.isEmpty_cons, giveV, giveVs, Bool.not_false, Bool.not_true, reduceCtorEq, Bool.false_eq_true, if_false, if_true, dg_length, take_dg, List.take_length, ends_n, ends_r, results, resVs, resV, giveV, giveVs, shareV, theRow, List.getElem?_cons_zero, List.getElem?_cons_succ, Option.map_some, List.take_zero, List.take_nil, List.take_succ_cons]
  | succ n =>
    have ld := load_dg [] w i (by omega)
    simp -implicitDefEqProofs (disch := first | omega | (apply calm_by; decide)) only [List.cons_append, List.nil_append, Ev_seq, Ev_region, Ev_skip, Ev_exit, Ev_ret, Ev_block, Ev_cond, Ev_ghost, Ev_draw_calm, GoOn_cmp, GoOn_nil, GoOn_thn, GoOn_thn_e, GoOn_thn_r, GoOn_blk, GoOn_blk_e, GoOn_blk_r, onN_n, onN_e, onN_r, Round_n, Round_e, Round_r, EvC_t, EvC_f, EvW_t, EvW_f, EvR_some, EvN_some, EvO_cons, EvO_nil, wanted, exec, put, passed, opd,
    List.length_cons, List.length_nil, Nat.zero_add, Nat.reduceAdd, List.replicate_succ, List.replicate_zero, List.set_cons_zero, List.set_cons_succ, List.getD_cons_zero, List.getD_cons_succ, Option.map_some, Option.map_none, List.map_cons, List.map_nil,
    bin_add, bin_sub, bin_mul, bin_eql, bin_neq, bin_lss, bin_leq, bin_gtr, bin_geq, bin_quo_nat, bin_rem_nat, bin_or_hi, bin_shr32, bin_shl32, lenV_slice, lenV_ref, ne_eq, not_false_eq_true, beq_true, beq_false, Bool.not_true, Bool.not_false, wrap_i64, wrap_u64, dec_t, dec_f, ite_t, ite_f, ibeq_t, ibeq_f, ibne_t, ibne_f, index_slice, index_ref, slice_slice_hi, slice_ref_hi, Int.natCast_add, Int.cast_ofNat_Int, Int.add_sub_cancel, Int.toNat_natCast, Int.toNat_natCast_add_one, Int.reduceToNat, Nat.mul_one, load_dg, shareL_dg, adoptV, if_true, if_false, ite_true, ite_false, Bool.true_eq, Bool.false_eq_true, beq_self_eq_true, reduceCtorEq, reduceIte, Nat.reduceMul, Nat.reduceSub, Nat.reduceLT, Nat.reduceLeDiff, Nat.reduceEqDiff, callV, takeArgs, takeV, lendArgs, lendV, lendVs, List.headD_cons, List.headD_nil, List.tail_cons, List.tail_nil, List.contains_cons, List.contains_nil, m_al, m_sl, m_ol, m_ll, m_la, m_ls, m_lo, Bool.or_false, Bool.or_true, Bool.false_or, Bool.true_or, idsL, ids, madeV, shareV, shareVs, adoptV, adoptVs, ownOnly, ownOnlyL, Bool.true_and, Bool.and_true, Bool.and_false, Bool.false_and, List.isEmpty_nil, List.isEmpty_cons, giveV, giveVs, Bool.not_false, Bool.not_true, reduceCtorEq, Bool.false_eq_true, if_false, if_true, norm, keepLive, compact, List.range_zero, List.range_succ, List.nil_append, List.cons_append, List.append_nil, List.contains_cons, List.contains_nil, Bool.or_false, Bool.or_true, Bool.false_or, Bool.true_or, Nat.reduceBEq, beq_self_eq_true, idsL, ids, addId, List.filter_cons, List.filter_nil, decide_true, decide_false, List.map_cons, List.map_nil, maskD, within, withinL, mapD, mapL, subRows, getRow, List.idxOf_cons, List.idxOf_nil, cond_true, cond_false, Bool.and_true, Bool.true_and, if_true, if_false, Bool.false_eq_true, List.length_cons, List.length_nil, Nat.zero_add, Nat.reduceAdd, Nat.reduceLT, List.getD_cons_zero, List.getD_cons_succ, List.set_cons_zero, List.set_cons_succ, reduceIte, reduceCtorEq, ld]
    exact ⟨n, by omega, i + 1, by omega, rfl⟩
set_option maxHeartbeats 1000000 in
theorem contains_ok (h : Has1 T) (W : WF T) (ks : List Nat) (w : List Int) (hk : Small ks) (hl : ks.length ≤ 63) (hw : InW ks w) : callW T 39 [sp ks, .slice false 1 w.length (di w)] [] = some (.bool true, []) := by
  refine callW_ev (h 39 (.code F.f39) rfl) rfl ?_
  obtain ⟨hwl, hin⟩ := hw
  have tv := valid_ok h W ks hk (by omega)
  simp only [F.f39, sp, adoptVs, adoptV, List.cons_append, List.nil_append] at tv ⊢
  simp -implicitDefEqProofs (disch := first | omega | (apply calm_by; decide)) only [List.cons_append, List.nil_append, Ev_seq, Ev_region, Ev_skip, Ev_exit, Ev_ret, Ev_block, Ev_cond, Ev_ghost, Ev_draw_calm, GoOn_cmp, GoOn_nil, GoOn_thn, GoOn_thn_e, GoOn_thn_r, GoOn_blk, GoOn_blk_e, GoOn_blk_r, onN_n, onN_e, onN_r, Round_n, Round_e, Round_r, EvC_t, EvC_f, EvW_t, EvW_f, EvR_some, EvN_some, EvO_cons, EvO_nil, wanted, exec, put, passed, opd,
    List.length_cons, List.length_nil, Nat.zero_add, Nat.reduceAdd, List.replicate_succ, List.replicate_zero, List.set_cons_zero, List.set_cons_succ, List.getD_cons_zero, List.getD_cons_succ, Option.map_some, Option.map_none, List.map_cons, List.map_nil,
    bin_add, bin_sub, bin_mul, bin_eql, bin_neq, bin_lss, bin_leq, bin_gtr, bin_geq, bin_quo_nat, bin_rem_nat, bin_or_hi, bin_shr32, bin_shl32, lenV_slice, lenV_ref, ne_eq, not_false_eq_true, beq_true, beq_false, Bool.not_true, Bool.not_false, wrap_i64, wrap_u64, dec_t, dec_f, ite_t, ite_f, ibeq_t, ibeq_f, ibne_t, ibne_f, index_slice, index_ref, slice_slice_hi, slice_ref_hi, Int.natCast_add, Int.cast_ofNat_Int, Int.add_sub_cancel, Int.toNat_natCast, Int.toNat_natCast_add_one, Int.reduceToNat, Nat.mul_one, load_dg, shareL_dg, adoptV, if_true, if_false, ite_true, ite_false, Bool.true_eq, Bool.false_eq_true, beq_self_eq_true, reduceCtorEq, reduceIte, Nat.reduceMul, Nat.reduceSub, Nat.reduceLT, Nat.reduceLeDiff, Nat.reduceEqDiff, callV, takeArgs, takeV, lendArgs, lendV, lendVs, List.headD_cons, List.headD_nil, List.tail_cons, List.tail_nil, List.contains_cons, List.contains_nil, m_al, m_sl, m_ol, m_ll, m_la, m_ls, m_lo, Bool.or_false, Bool.or_true, Bool.false_or, Bool.true_or, idsL, ids, madeV, shareV, shareVs, adoptV, adoptVs, ownOnly, ownOnlyL, Bool.true_and, Bool.and_true, Bool.and_false, Bool.false_and, List.isEmpty_nil, List.isEmpty_cons, giveV, giveVs, Bool.not_false, Bool.not_true, reduceCtorEq, Bool.false_eq_true, if_false, if_true, comps, zeros, fill, layAt, List.zip_cons_cons, List.zip_nil_left, List.zip_nil_right, List.all_cons, List.all_nil, storable, List.append_nil, List.cons_append, List.nil_append, true_and, and_self, Nat.le_refl, Bool.and_self, giveVs, giveV, adoptV, madeV, Option.map_some, List.map_cons, List.map_nil, loadV_addr, Nat.add_zero, storeV, setCells, layAt, cellsAt, borrow, borrowL, cut, theRow, comps, giveVs, giveV, List.getElem?_cons_zero, List.getElem?_cons_succ, List.drop_zero, List.take_succ_cons, List.take_zero, List.take_nil, List.all_cons, List.all_nil, storable, scalarD, Bool.and_self, Bool.false_eq_true, if_false, if_true, and_true, true_and, and_self, Nat.le_refl, false_implies, forall_const, forall_false, imp_false, not_false_eq_true, adoptVs, adoptV, shareL_blks, shareV, tv, lendVs, lend_slice0, un]
  refine Ev_loop (fun n st => ∃ i : Nat, i + n = w.length ∧ st = ⟨[.undef, .undef, .addr 0 [] 0 0, .undef, .undef, .undef, .slice false 1 w.length (di w), .int .i64 w.length, .int .i64 i], [], [some ⟨[.slice false 1 ks.length (blks ks)], false, 0, 0⟩], 0⟩) w.length ⟨0, by omega, ?_⟩ ?_
  · simp only [norm, keepLive, compact, List.range_zero, List.range_succ, List.nil_append, List.cons_append, List.append_nil, List.contains_cons, List.contains_nil, Bool.or_false, Bool.or_true, Bool.false_or, Bool.true_or, Nat.reduceBEq, beq_self_eq_true, idsL, ids, addId, List.filter_cons, List.filter_nil, decide_true, decide_false, List.map_cons, List.map_nil, maskD, within, withinL, mapD, mapL, subRows, getRow, List.idxOf_cons, List.idxOf_nil, cond_true, cond_false, Bool.and_true, Bool.true_and, if_true, if_false, Bool.false_eq_true, List.length_cons, List.length_nil, Nat.zero_add, Nat.reduceAdd, Nat.reduceLT, List.getD_cons_zero, List.getD_cons_succ, List.set_cons_zero, List.set_cons_succ, reduceIte, reduceCtorEq]; rfl
  rintro n st ⟨i, hi, rfl⟩
  cases n with
  | zero => simp -implicitDefEqProofs (disch := first | omega | (apply calm_by; decide)) only [List.cons_append, List.nil_append, Ev_seq, Ev_region, Ev_skip, Ev_exit, Ev_ret, Ev_block, Ev_cond, Ev_ghost, Ev_draw_calm, GoOn_cmp, GoOn_nil, GoOn_thn, GoOn_thn_e, GoOn_thn_r, GoOn_blk, GoOn_blk_e, GoOn_blk_r, onN_n, onN_e, onN_r, Round_n, Round_e, Round_r, EvC_t, EvC_f, EvW_t, EvW_f, EvR_some, EvN_some, EvO_cons, EvO_nil, wanted, exec, put, passed, opd,
    List.length_cons, List.length_nil, Nat.zero_add, Nat.reduceAdd, List.replicate_succ, List.replicate_zero, List.set_cons_zero, List.set_cons_succ, List.getD_cons_zero, List.getD_cons_succ, Option.map_some, Option.map_none, List.map_cons, List.map_nil,
    bin_add, bin_sub, bin_mul, bin_eql, bin_neq, bin_lss, bin_leq, bin_gtr, bin_geq, bin_quo_nat, bin_rem_nat, bin_or_hi, bin_shr32, bin_shl32, lenV_slice, lenV_ref, ne_eq, not_false_eq_true, beq_true, beq_false, Bool.not_true, Bool.not_false, wrap_i64, wrap_u64, dec_t, dec_f, ite_t, ite_f, ibeq_t, ibeq_f, ibne_t, ibne_f, index_slice, index_ref, slice_slice_hi, slice_ref_hi, Int.natCast_add, Int.cast_ofNat_Int, Int.add_sub_cancel, Int.toNat_natCast, Int.toNat_natCast_add_one, Int.reduceToNat, Nat.mul_one, load_dg, shareL_dg, adoptV, if_true, if_false, ite_true, ite_false, Bool.true_eq, Bool.false_eq_true, beq_self_eq_true, reduceCtorEq, reduceIte, Nat.reduceMul, Nat.reduceSub, Nat.reduceLT, Nat.reduceLeDiff, Nat.reduceEqDiff, callV, takeArgs, takeV, lendArgs, lendV, lendVs, List.headD_cons, List.headD_nil, List.tail_cons, List.tail_nil, List.contains_cons, List.contains_nil, m_al, m_sl, m_ol, m_ll, m_la, m_ls, m_lo, Bool.or_false, Bool.or_true, Bool.false_or, Bool.true_or, idsL, ids, madeV, shareV, shareVs, adoptV, adoptVs, ownOnly, ownOnlyL, Bool.true_and, Bool.and_true, Bool.and_false, Bool.false_and, List.isEmpty_nil, List.isEmpty_cons, giveV, giveVs, Bool.not_false, Bool.not_true, reduceCtorEq, Bool.false_eq_true, if_false, if_true, dg_length, take_dg, List.take_length, ends_n, ends_r, results, resVs, resV, giveV, giveVs, shareV, theRow, List.getElem?_cons_zero, List.getElem?_cons_succ, Option.map_some, List.take_zero, List.take_nil, List.take_succ_cons]
  | succ n =>
    have ld := fun rows => load_di rows w i (by omega)
    have ld2 := fun rows => load_blk1 rows ks i (by omega)
    obtain ⟨h1, h2⟩ := hin i (by omega)
    generalize ks.getD i 0 = k at *
    generalize w.getD i 0 = c at *
    have hkk : blk k = .slice false 3 k (zf k) := rfl
    rw [hkk] at ld2
    simp -implicitDefEqProofs (disch := first | omega | (apply calm_by; decide)) only [List.cons_append, List.nil_append, Ev_seq, Ev_region, Ev_skip, Ev_exit, Ev_ret, Ev_block, Ev_cond, Ev_ghost, Ev_draw_calm, GoOn_cmp, GoOn_nil, GoOn_thn, GoOn_thn_e, GoOn_thn_r, GoOn_blk, GoOn_blk_e, GoOn_blk_r, onN_n, onN_e, onN_r, Round_n, Round_e, Round_r, EvC_t, EvC_f, EvW_t, EvW_f, EvR_some, EvN_some, EvO_cons, EvO_nil, wanted, exec, put, passed, opd,
    List.length_cons, List.length_nil, Nat.zero_add, Nat.reduceAdd, List.replicate_succ, List.replicate_zero, List.set_cons_zero, List.set_cons_succ, List.getD_cons_zero, List.getD_cons_succ, Option.map_some, Option.map_none, List.map_cons, List.map_nil,
    bin_add, bin_sub, bin_mul, bin_eql, bin_neq, bin_lss, bin_leq, bin_gtr, bin_geq, bin_quo_nat, bin_rem_nat, bin_or_hi, bin_shr32, bin_shl32, lenV_slice, lenV_ref, ne_eq, not_false_eq_true, beq_true, beq_false, Bool.not_true, Bool.not_false, wrap_i64, wrap_u64, dec_t, dec_f, ite_t, ite_f, ibeq_t, ibeq_f, ibne_t, ibne_f, index_slice, index_ref, slice_slice_hi, slice_ref_hi, Int.natCast_add, Int.cast_ofNat_Int, Int.add_sub_cancel, Int.toNat_natCast, Int.toNat_natCast_add_one, Int.reduceToNat, Nat.mul_one, load_dg, shareL_dg, adoptV, if_true, if_false, ite_true, ite_false, Bool.true_eq, Bool.false_eq_true, beq_self_eq_true, reduceCtorEq, reduceIte, Nat.reduceMul, Nat.reduceSub, Nat.reduceLT, Nat.reduceLeDiff, Nat.reduceEqDiff, callV, takeArgs, takeV, lendArgs, lendV, lendVs, List.headD_cons, List.headD_nil, List.tail_cons, List.tail_nil, List.contains_cons, List.contains_nil, m_al, m_sl, m_ol, m_ll, m_la, m_ls, m_lo, Bool.or_false, Bool.or_true, Bool.false_or, Bool.true_or, idsL, ids, madeV, shareV, shareVs, adoptV, adoptVs, ownOnly, ownOnlyL, Bool.true_and, Bool.and_true, Bool.and_false, Bool.false_and, List.isEmpty_nil, List.isEmpty_cons, giveV, giveVs, Bool.not_false, Bool.not_true, reduceCtorEq, Bool.false_eq_true, if_false, if_true, comps, zeros, fill, layAt, List.zip_cons_cons, List.zip_nil_left, List.zip_nil_right, List.all_cons, List.all_nil, storable, List.append_nil, List.cons_append, List.nil_append, true_and, and_self, Nat.le_refl, Bool.and_self, giveVs, giveV, adoptV, madeV, Option.map_some, List.map_cons, List.map_nil, loadV_addr, Nat.add_zero, storeV, setCells, layAt, cellsAt, borrow, borrowL, cut, theRow, comps, giveVs, giveV, List.getElem?_cons_zero, List.getElem?_cons_succ, List.drop_zero, List.take_succ_cons, List.take_zero, List.take_nil, List.all_cons, List.all_nil, storable, scalarD, Bool.and_self, Bool.false_eq_true, if_false, if_true, and_true, true_and, and_self, Nat.le_refl, false_implies, forall_const, forall_false, imp_false, not_false_eq_true, adoptVs, adoptV, norm, keepLive, compact, List.range_zero, List.range_succ, List.nil_append, List.cons_append, List.append_nil, List.contains_cons, List.contains_nil, Bool.or_false, Bool.or_true, Bool.false_or, Bool.true_or, Nat.reduceBEq, beq_self_eq_true, idsL, ids, addId, List.filter_cons, List.filter_nil, decide_true, decide_false, List.map_cons, List.map_nil, maskD, within, withinL, mapD, mapL, subRows, getRow, List.idxOf_cons, List.idxOf_nil, cond_true, cond_false, Bool.and_true, Bool.true_and, if_true, if_false, Bool.false_eq_true, List.length_cons, List.length_nil, Nat.zero_add, Nat.reduceAdd, Nat.reduceLT, List.getD_cons_zero, List.getD_cons_succ, List.set_cons_zero, List.set_cons_succ, reduceIte, reduceCtorEq, shareL_di, shareL_blks, ld, ld2]
    exact ⟨n, by omega, i + 1, by omega, rfl⟩
end
end Av
namespace Av
open Go
set_option linter.unusedSimpArgs false
set_option linter.unusedVariables false
/-- A choice's place, and back. -/
def digN (k : Nat) (c : Int) : Nat := if c < 0 then k else c.toNat
def chI (k d : Nat) : Int := if d = k then -1 else d
/-- A world's digits, and its number. -/
def dws : List Nat → List Int → List Nat
  | k :: ks, c :: w => digN k c :: dws ks w
  | _, _ => []
def num : List Nat → List Int → Nat
  | k :: ks, c :: w => digN k c * cnt ks + num ks w
  | _, _ => 0
/-- The world with number n. -/
def wAt : List Nat → Nat → List Int
  | [], _ => []
  | k :: ks, n => chI k (n / cnt ks % (k + 1)) :: wAt ks n
theorem wAt_length : ∀ ks n, (wAt ks n).length = ks.length
  | [], _ => rfl
  | k :: ks, n => by rw [wAt, List.length_cons, List.length_cons, wAt_length]
theorem wAt_drop : ∀ ks n j, (wAt ks n).drop j = wAt (ks.drop j) n
  | ks, n, 0 => rfl
  | [], n, j + 1 => rfl
  | k :: ks, n, j + 1 => by rw [wAt, List.drop_succ_cons, List.drop_succ_cons, wAt_drop]
theorem digN_le {k : Nat} {c : Int} (h : c < k) : digN k c ≤ k := by unfold digN; split <;> omega
theorem chI_in (k d : Nat) (h : d < k + 1) : -1 ≤ chI k d ∧ chI k d < k := by unfold chI; split <;> omega
theorem digN_chI (k d : Nat) (h : d < k + 1) : digN k (chI k d) = d := by unfold digN chI; split <;> split <;> omega
theorem chI_digN (k : Nat) (c : Int) (h1 : -1 ≤ c) (h2 : c < k) : chI k (digN k c) = c := by unfold digN chI; split <;> split <;> omega
theorem num_wAt : ∀ ks n, num ks (wAt ks n) = n % cnt ks
  | [], n => by rw [wAt, cnt, Nat.mod_one]; simp [num]
  | k :: ks, n => by
    rw [wAt, num, cnt, digN_chI _ _ (Nat.mod_lt _ (by omega)), num_wAt ks n, Nat.mul_comm (k + 1), Nat.mod_mul, Nat.mul_comm (cnt ks), Nat.add_comm]
theorem InW.cons {k : Nat} {ks : List Nat} {c : Int} {w : List Int} (h : InW (k :: ks) (c :: w)) : (-1 ≤ c ∧ c < k) ∧ InW ks w := by
  obtain ⟨h1, h2⟩ := h
  exact ⟨h2 0 (by simp), by simpa using h1, fun i hi => h2 (i + 1) (by simp; omega)⟩
theorem num_lt : ∀ {ks : List Nat} {w : List Int}, InW ks w → num ks w < cnt ks
  | [], [], _ => by simp [num, cnt]
  | [], _ :: _, _ => by simp [num, cnt]
  | k :: ks, [], h => by have := h.1; simp at this
  | k :: ks, c :: w, h => by
    obtain ⟨h1, h2⟩ := h.cons
    have h3 := num_lt h2
    have h4 := digN_le h1.2
    rw [num, cnt]
    have h5 : (digN k c + 1) * cnt ks ≤ (k + 1) * cnt ks := Nat.mul_le_mul_right _ (by omega)
    rw [Nat.add_mul, Nat.one_mul] at h5
    omega
theorem wAt_add : ∀ ks n t, wAt ks (n + cnt ks * t) = wAt ks n
  | [], _, _ => rfl
  | k :: ks, n, t => by
    rw [wAt, wAt]
    have e : n + cnt (k :: ks) * t = n + cnt ks * ((k + 1) * t) := by rw [cnt, Nat.mul_comm (k + 1), Nat.mul_assoc]
    rw [e, wAt_add ks, Nat.add_mul_div_left _ _ (cnt_pos ks), Nat.add_mul_mod_self_left]
theorem wAt_num : ∀ {ks : List Nat} {w : List Int}, InW ks w → wAt ks (num ks w) = w
  | [], [], _ => rfl
  | [], _ :: _, h => by have := h.1; simp at this
  | k :: ks, [], h => by have := h.1; simp at this
  | k :: ks, c :: w, h => by
    obtain ⟨h1, h2⟩ := h.cons
    have h3 := num_lt h2
    have h4 := digN_le h1.2
    rw [wAt, num]
    have e : digN k c * cnt ks + num ks w = num ks w + cnt ks * digN k c := by rw [Nat.mul_comm, Nat.add_comm]
    rw [e, wAt_add, Nat.add_mul_div_left _ _ (cnt_pos ks), Nat.div_eq_of_lt h3, Nat.zero_add, Nat.mod_eq_of_lt (by omega), chI_digN _ _ h1.1 h1.2, wAt_num h2]
theorem wAt_in : ∀ ks n, InW ks (wAt ks n)
  | [], n => ⟨rfl, fun i hi => by simp at hi⟩
  | k :: ks, n => by
    obtain ⟨h1, h2⟩ := wAt_in ks n
    refine ⟨by rw [wAt_length], fun i hi => ?_⟩
    cases i with
    | zero => exact chI_in k _ (Nat.mod_lt _ (by omega))
    | succ i => exact h2 i (by simpa using hi)
theorem num_append : ∀ (ks : List Nat) (w : List Int) (k : Nat) (c : Int), w.length = ks.length → num (ks ++ [k]) (w ++ [c]) = num ks w * (k + 1) + digN k c
  | [], [], k, c, _ => by simp [num, cnt]
  | [], _ :: _, _, _, h => by simp at h
  | _ :: _, [], _, _, h => by simp at h
  | k' :: ks, c' :: w, k, c, h => by
    have := num_append ks w k c (by simpa using h)
    rw [List.cons_append, List.cons_append, num, this, num, cnt_append, Nat.add_mul, Nat.add_assoc]
    congr 1
    simp only [cnt, Nat.mul_one, Nat.mul_assoc]
theorem num_take (ks : List Nat) (w : List Int) (i : Nat) (hi : i < ks.length) (hw : w.length = ks.length) : num (ks.take (i + 1)) (w.take (i + 1)) = num (ks.take i) (w.take i) * (ks.getD i 0 + 1) + digN (ks.getD i 0) (w.getD i 0) := by
  have e : w.take (i + 1) = w.take i ++ [w.getD i 0] := by rw [List.take_add_one]; simp [show i < w.length by omega]
  rw [take_get ks i hi, e, num_append _ _ _ _ (by simp; omega)]
theorem InW.take {ks : List Nat} {w : List Int} (h : InW ks w) (i : Nat) : InW (ks.take i) (w.take i) := by
  obtain ⟨h1, h2⟩ := h
  refine ⟨by simp; omega, fun j hj => ?_⟩
  have hj2 : j < i ∧ j < ks.length := by simp at hj; omega
  have := h2 j hj2.2
  rw [List.getD_eq_getElem?_getD, List.getElem?_take, if_pos hj2.1, ← List.getD_eq_getElem?_getD, List.getD_eq_getElem?_getD (l := ks.take i), List.getElem?_take, if_pos hj2.1, ← List.getD_eq_getElem?_getD]
  exact this
section
variable {T : Nat → Option Fun}
set_option maxHeartbeats 2000000 in
theorem index_ok (h : Has1 T) (W : WF T) (ks : List Nat) (w : List Int) (hk : Small ks) (hl : ks.length ≤ 63) (hw : InW ks w) : callW T 38 [sp ks, .slice false 1 w.length (di w)] [] = some (.tup [natO (digs (num ks w)), .bool true], []) := by
  refine callW_ev (h 38 (.code F.f38) rfl) rfl ?_
  have tc := contains_ok h W ks w hk hl hw
  have hwl := hw.1
  simp only [F.f38, sp, adoptVs, adoptV, List.cons_append, List.nil_append] at tc ⊢
  simp -implicitDefEqProofs (disch := first | omega | (apply calm_by; decide)) only [List.cons_append, List.nil_append, Ev_seq, Ev_region, Ev_skip, Ev_exit, Ev_ret, Ev_block, Ev_cond, Ev_ghost, Ev_draw_calm, GoOn_cmp, GoOn_nil, GoOn_thn, GoOn_thn_e, GoOn_thn_r, GoOn_blk, GoOn_blk_e, GoOn_blk_r, onN_n, onN_e, onN_r, Round_n, Round_e, Round_r, EvC_t, EvC_f, EvW_t, EvW_f, EvR_some, EvN_some, EvO_cons, EvO_nil, wanted, exec, put, passed, opd,
    List.length_cons, List.length_nil, Nat.zero_add, Nat.reduceAdd, List.replicate_succ, List.replicate_zero, List.set_cons_zero, List.set_cons_succ, List.getD_cons_zero, List.getD_cons_succ, Option.map_some, Option.map_none, List.map_cons, List.map_nil,
    bin_add, bin_sub, bin_mul, bin_eql, bin_neq, bin_lss, bin_leq, bin_gtr, bin_geq, bin_quo_nat, bin_rem_nat, bin_or_hi, bin_shr32, bin_shl32, lenV_slice, lenV_ref, ne_eq, not_false_eq_true, beq_true, beq_false, Bool.not_true, Bool.not_false, wrap_i64, wrap_u64, dec_t, dec_f, ite_t, ite_f, ibeq_t, ibeq_f, ibne_t, ibne_f, index_slice, index_ref, slice_slice_hi, slice_ref_hi, Int.natCast_add, Int.cast_ofNat_Int, Int.add_sub_cancel, Int.toNat_natCast, Int.toNat_natCast_add_one, Int.reduceToNat, Nat.mul_one, load_dg, shareL_dg, adoptV, if_true, if_false, ite_true, ite_false, Bool.true_eq, Bool.false_eq_true, beq_self_eq_true, reduceCtorEq, reduceIte, Nat.reduceMul, Nat.reduceSub, Nat.reduceLT, Nat.reduceLeDiff, Nat.reduceEqDiff, callV, takeArgs, takeV, lendArgs, lendV, lendVs, List.headD_cons, List.headD_nil, List.tail_cons, List.tail_nil, List.contains_cons, List.contains_nil, m_al, m_sl, m_ol, m_ll, m_la, m_ls, m_lo, Bool.or_false, Bool.or_true, Bool.false_or, Bool.true_or, idsL, ids, madeV, shareV, shareVs, adoptV, adoptVs, ownOnly, ownOnlyL, Bool.true_and, Bool.and_true, Bool.and_false, Bool.false_and, List.isEmpty_nil, List.isEmpty_cons, giveV, giveVs, Bool.not_false, Bool.not_true, reduceCtorEq, Bool.false_eq_true, if_false, if_true, comps, zeros, fill, layAt, List.zip_cons_cons, List.zip_nil_left, List.zip_nil_right, List.all_cons, List.all_nil, storable, List.append_nil, List.cons_append, List.nil_append, true_and, and_self, Nat.le_refl, Bool.and_self, giveVs, giveV, adoptV, madeV, Option.map_some, List.map_cons, List.map_nil, loadV_addr, Nat.add_zero, storeV, setCells, layAt, cellsAt, borrow, borrowL, cut, theRow, comps, giveVs, giveV, List.getElem?_cons_zero, List.getElem?_cons_succ, List.drop_zero, List.take_succ_cons, List.take_zero, List.take_nil, List.all_cons, List.all_nil, storable, scalarD, Bool.and_self, Bool.false_eq_true, if_false, if_true, and_true, true_and, and_self, Nat.le_refl, false_implies, forall_const, forall_false, imp_false, not_false_eq_true, adoptVs, adoptV, shareL_blks, shareL_di, shareV, tc, lendVs, lend_slice0, un]
  refine Ev_loop (fun n st => ∃ (i : Nat) (A : List Nat), i + n = ks.length ∧ A = digs (num (ks.take i) (w.take i)) ∧ ((A = [] ∧ st = ⟨[.undef, .slice false 1 w.length (di w), .undef, .undef, .undef, .slice true 1 0 [], .undef, .undef, .slice false 1 ks.length (blks ks), .int .i64 ks.length, .int .i64 i], [], [], 0⟩) ∨
      st = ⟨[.undef, .slice false 1 w.length (di w), .undef, .undef, .undef, .ref 0 [] 0 0 A.length 1, .undef, .undef, .slice false 1 ks.length (blks ks), .int .i64 ks.length, .int .i64 i], [], [some ⟨dg A, false, 0, 0⟩], 0⟩)) ks.length ⟨0, [], by omega, by rw [List.take_zero, num, digs_zero]; simp, .inl ⟨rfl, ?_⟩⟩ ?_
  · simp only [norm, keepLive, compact, List.range_zero, List.range_succ, List.nil_append, List.cons_append, List.append_nil, List.contains_cons, List.contains_nil, Bool.or_false, Bool.or_true, Bool.false_or, Bool.true_or, Nat.reduceBEq, beq_self_eq_true, idsL, ids, addId, List.filter_cons, List.filter_nil, decide_true, decide_false, List.map_cons, List.map_nil, maskD, within, withinL, mapD, mapL, subRows, getRow, List.idxOf_cons, List.idxOf_nil, cond_true, cond_false, Bool.and_true, Bool.true_and, if_true, if_false, Bool.false_eq_true, List.length_cons, List.length_nil, Nat.zero_add, Nat.reduceAdd, Nat.reduceLT, List.getD_cons_zero, List.getD_cons_succ, List.set_cons_zero, List.set_cons_succ, reduceIte, reduceCtorEq]; rfl
  rintro n st ⟨i, A, hi, hA, hst⟩
  cases n with
  | zero =>
    rw [List.take_of_length_le (by omega), List.take_of_length_le (by omega)] at hA
    rw [← hA]
    rcases hst with ⟨rfl, rfl⟩ | rfl
    · simp -implicitDefEqProofs (disch := first | omega | (apply calm_by; decide)) only [List.cons_append, List.nil_append, Ev_seq, Ev_region, Ev_skip, Ev_exit, Ev_ret, Ev_block, Ev_cond, Ev_ghost, Ev_draw_calm, GoOn_cmp, GoOn_nil, GoOn_thn, GoOn_thn_e, GoOn_thn_r, GoOn_blk, GoOn_blk_e, GoOn_blk_r, onN_n, onN_e, onN_r, Round_n, Round_e, Round_r, EvC_t, EvC_f, EvW_t, EvW_f, EvR_some, EvN_some, EvO_cons, EvO_nil, wanted, exec, put, passed, opd,
    List.length_cons, List.length_nil, Nat.zero_add, Nat.reduceAdd, List.replicate_succ, List.replicate_zero, List.set_cons_zero, List.set_cons_succ, List.getD_cons_zero, List.getD_cons_succ, Option.map_some, Option.map_none, List.map_cons, List.map_nil,
    bin_add, bin_sub, bin_mul, bin_eql, bin_neq, bin_lss, bin_leq, bin_gtr, bin_geq, bin_quo_nat, bin_rem_nat, bin_or_hi, bin_shr32, bin_shl32, lenV_slice, lenV_ref, ne_eq, not_false_eq_true, beq_true, beq_false, Bool.not_true, Bool.not_false, wrap_i64, wrap_u64, dec_t, dec_f, ite_t, ite_f, ibeq_t, ibeq_f, ibne_t, ibne_f, index_slice, index_ref, slice_slice_hi, slice_ref_hi, Int.natCast_add, Int.cast_ofNat_Int, Int.add_sub_cancel, Int.toNat_natCast, Int.toNat_natCast_add_one, Int.reduceToNat, Nat.mul_one, load_dg, shareL_dg, adoptV, if_true, if_false, ite_true, ite_false, Bool.true_eq, Bool.false_eq_true, beq_self_eq_true, reduceCtorEq, reduceIte, Nat.reduceMul, Nat.reduceSub, Nat.reduceLT, Nat.reduceLeDiff, Nat.reduceEqDiff, callV, takeArgs, takeV, lendArgs, lendV, lendVs, List.headD_cons, List.headD_nil, List.tail_cons, List.tail_nil, List.contains_cons, List.contains_nil, m_al, m_sl, m_ol, m_ll, m_la, m_ls, m_lo, Bool.or_false, Bool.or_true, Bool.false_or, Bool.true_or, idsL, ids, madeV, shareV, shareVs, adoptV, adoptVs, ownOnly, ownOnlyL, Bool.true_and, Bool.and_true, Bool.and_false, Bool.false_and, List.isEmpty_nil, List.isEmpty_cons, giveV, giveVs, Bool.not_false, Bool.not_true, reduceCtorEq, Bool.false_eq_true, if_false, if_true, dg_length, take_dg, List.take_length, ends_n, ends_r, results, resVs, resV, giveV, giveVs, shareV, theRow, List.getElem?_cons_zero, List.getElem?_cons_succ, Option.map_some, List.take_zero, List.take_nil, List.take_succ_cons, take_dg_self, natO, dg]
    · simp -implicitDefEqProofs (disch := first | omega | (apply calm_by; decide)) only [List.cons_append, List.nil_append, Ev_seq, Ev_region, Ev_skip, Ev_exit, Ev_ret, Ev_block, Ev_cond, Ev_ghost, Ev_draw_calm, GoOn_cmp, GoOn_nil, GoOn_thn, GoOn_thn_e, GoOn_thn_r, GoOn_blk, GoOn_blk_e, GoOn_blk_r, onN_n, onN_e, onN_r, Round_n, Round_e, Round_r, EvC_t, EvC_f, EvW_t, EvW_f, EvR_some, EvN_some, EvO_cons, EvO_nil, wanted, exec, put, passed, opd,
    List.length_cons, List.length_nil, Nat.zero_add, Nat.reduceAdd, List.replicate_succ, List.replicate_zero, List.set_cons_zero, List.set_cons_succ, List.getD_cons_zero, List.getD_cons_succ, Option.map_some, Option.map_none, List.map_cons, List.map_nil,
    bin_add, bin_sub, bin_mul, bin_eql, bin_neq, bin_lss, bin_leq, bin_gtr, bin_geq, bin_quo_nat, bin_rem_nat, bin_or_hi, bin_shr32, bin_shl32, lenV_slice, lenV_ref, ne_eq, not_false_eq_true, beq_true, beq_false, Bool.not_true, Bool.not_false, wrap_i64, wrap_u64, dec_t, dec_f, ite_t, ite_f, ibeq_t, ibeq_f, ibne_t, ibne_f, index_slice, index_ref, slice_slice_hi, slice_ref_hi, Int.natCast_add, Int.cast_ofNat_Int, Int.add_sub_cancel, Int.toNat_natCast, Int.toNat_natCast_add_one, Int.reduceToNat, Nat.mul_one, load_dg, shareL_dg, adoptV, if_true, if_false, ite_true, ite_false, Bool.true_eq, Bool.false_eq_true, beq_self_eq_true, reduceCtorEq, reduceIte, Nat.reduceMul, Nat.reduceSub, Nat.reduceLT, Nat.reduceLeDiff, Nat.reduceEqDiff, callV, takeArgs, takeV, lendArgs, lendV, lendVs, List.headD_cons, List.headD_nil, List.tail_cons, List.tail_nil, List.contains_cons, List.contains_nil, m_al, m_sl, m_ol, m_ll, m_la, m_ls, m_lo, Bool.or_false, Bool.or_true, Bool.false_or, Bool.true_or, idsL, ids, madeV, shareV, shareVs, adoptV, adoptVs, ownOnly, ownOnlyL, Bool.true_and, Bool.and_true, Bool.and_false, Bool.false_and, List.isEmpty_nil, List.isEmpty_cons, giveV, giveVs, Bool.not_false, Bool.not_true, reduceCtorEq, Bool.false_eq_true, if_false, if_true, dg_length, take_dg, List.take_length, ends_n, ends_r, results, resVs, resV, giveV, giveVs, shareV, theRow, List.getElem?_cons_zero, List.getElem?_cons_succ, Option.map_some, List.take_zero, List.take_nil, List.take_succ_cons, take_dg_self, natO]
  | succ n =>
    have hki := hk.get i
    have ld := fun rows => load_blk rows ks i (by omega)
    have ld2 := fun rows => load_di rows w i (by omega)
    have hc := num_take ks w i (by omega) hwl
    have hlt := Nat.lt_trans (num_lt (hw.take i)) (cnt_lt (hk.take i) (by rw [List.length_take]; omega))
    have hdl := digN_le (hw.2 i (by omega)).2
    have lA : A.length ≤ 5 := by rw [hA]; exact digs_length_le hlt
    have dA : Dig A := by rw [hA]; exact dig_digs _
    have vA : val A = num (ks.take i) (w.take i) := by rw [hA, val_digs]
    generalize num (ks.take i) (w.take i) = x at *
    generalize ks.getD i 0 = k at *
    generalize w.getD i 0 = c at *
    have hkk : blk k = .slice false 3 k (zf k) := rfl
    have tr := radix_ok h k (by omega)
    have td := digit_ok h k c (by omega)
    rw [hkk] at ld tr td
    have ed : (if c < 0 then (k : Int) else c) = ((digN k c : Nat) : Int) := by unfold digN; split <;> omega
    rw [ed] at td
    have t2 := from_ok h (k + 1) (by omega)
    have l2 : (digs (k + 1)).length ≤ 1 := digs_length_le (by omega)
    have t3 := mul_ok h A (digs (k + 1)) dA (dig_digs _) (by omega) (by omega)
    rw [vA, val_digs] at t3
    have t4 := from_ok h (digN k c) (by omega)
    have l4 : (digs (digN k c)).length ≤ 1 := digs_length_le (by omega)
    have hx : x * (k + 1) < 4294967296 ^ 6 := by
      have : x * (k + 1) ≤ x * 5 := Nat.mul_le_mul_left _ (by omega)
      omega
    have l5 : (digs (x * (k + 1))).length ≤ 6 := digs_length_le hx
    have t5 := add_ok h (digs (x * (k + 1))) (digs (digN k c)) (dig_digs _) (dig_digs _) (by omega) (by omega)
    rw [val_digs, val_digs, ← hc] at t5
    simp only [Int.natCast_add, Int.cast_ofNat_Int] at t2
    have hdc : ((digN k c : Nat) : Int) ≤ 4 := by omega
    generalize digs (x * (k + 1)) = M at *
    generalize digs (digN k c) = E at *
    generalize digs (k + 1) = R at *
    generalize digN k c = d at *
    rcases hst with ⟨rfl, rfl⟩ | rfl
    · have t3' : callW T 14 [.slice false 1 0 [], .slice false 1 R.length (dg R)] [] = some (natO M, []) := t3
      simp -implicitDefEqProofs (disch := first | omega | (apply calm_by; decide)) only [List.cons_append, List.nil_append, Ev_seq, Ev_region, Ev_skip, Ev_exit, Ev_ret, Ev_block, Ev_cond, Ev_ghost, Ev_draw_calm, GoOn_cmp, GoOn_nil, GoOn_thn, GoOn_thn_e, GoOn_thn_r, GoOn_blk, GoOn_blk_e, GoOn_blk_r, onN_n, onN_e, onN_r, Round_n, Round_e, Round_r, EvC_t, EvC_f, EvW_t, EvW_f, EvR_some, EvN_some, EvO_cons, EvO_nil, wanted, exec, put, passed, opd,
    List.length_cons, List.length_nil, Nat.zero_add, Nat.reduceAdd, List.replicate_succ, List.replicate_zero, List.set_cons_zero, List.set_cons_succ, List.getD_cons_zero, List.getD_cons_succ, Option.map_some, Option.map_none, List.map_cons, List.map_nil,
    bin_add, bin_sub, bin_mul, bin_eql, bin_neq, bin_lss, bin_leq, bin_gtr, bin_geq, bin_quo_nat, bin_rem_nat, bin_or_hi, bin_shr32, bin_shl32, lenV_slice, lenV_ref, ne_eq, not_false_eq_true, beq_true, beq_false, Bool.not_true, Bool.not_false, wrap_i64, wrap_u64, dec_t, dec_f, ite_t, ite_f, ibeq_t, ibeq_f, ibne_t, ibne_f, index_slice, index_ref, slice_slice_hi, slice_ref_hi, Int.natCast_add, Int.cast_ofNat_Int, Int.add_sub_cancel, Int.toNat_natCast, Int.toNat_natCast_add_one, Int.reduceToNat, Nat.mul_one, load_dg, shareL_dg, adoptV, if_true, if_false, ite_true, ite_false, Bool.true_eq, Bool.false_eq_true, beq_self_eq_true, reduceCtorEq, reduceIte, Nat.reduceMul, Nat.reduceSub, Nat.reduceLT, Nat.reduceLeDiff, Nat.reduceEqDiff, Ev_drawn, EvD_cons, EvD_nil, EvDR_some, xd_move, xd_assign, xd_bin, xd_conv, xd_field, xd_index, xd_load, xd_len, xd_extract, xd_build, xd_call, xd_makeSlice, xd_buildSlice, xd_append, xd_store, execAt, opIds, AOp.opds, slotsAt, List.sum_cons, List.sum_nil, List.take_succ_cons, List.take_zero, List.take_nil, List.range'_succ, List.range'_zero, Nat.add_zero, maskD, within, withinL, mapD, mapL, subRows, getRow, writeBack, addId, List.contains_cons, List.contains_nil, Nat.reduceBEq, List.idxOf_cons, List.idxOf_nil, cond_true, cond_false, List.append_nil, List.replicate_succ, List.replicate_zero, List.set_cons_zero, List.set_cons_succ, norm, keepLive, compact, List.range_zero, List.range_succ, List.nil_append, List.cons_append, List.append_nil, List.contains_cons, List.contains_nil, Bool.or_false, Bool.or_true, Bool.false_or, Bool.true_or, Nat.reduceBEq, beq_self_eq_true, idsL, ids, addId, List.filter_cons, List.filter_nil, decide_true, decide_false, List.map_cons, List.map_nil, maskD, within, withinL, mapD, mapL, subRows, getRow, List.idxOf_cons, List.idxOf_nil, cond_true, cond_false, Bool.and_true, Bool.true_and, if_true, if_false, Bool.false_eq_true, List.length_cons, List.length_nil, Nat.zero_add, Nat.reduceAdd, Nat.reduceLT, List.getD_cons_zero, List.getD_cons_succ, List.set_cons_zero, List.set_cons_succ, reduceIte, reduceCtorEq, callV, takeArgs, takeV, lendArgs, lendV, lendVs, List.headD_cons, List.headD_nil, List.tail_cons, List.tail_nil, List.contains_cons, List.contains_nil, m_al, m_sl, m_ol, m_ll, m_la, m_ls, m_lo, Bool.or_false, Bool.or_true, Bool.false_or, Bool.true_or, idsL, ids, madeV, shareV, shareVs, adoptV, adoptVs, ownOnly, ownOnlyL, Bool.true_and, Bool.and_true, Bool.and_false, Bool.false_and, List.isEmpty_nil, List.isEmpty_cons, giveV, giveVs, Bool.not_false, Bool.not_true, reduceCtorEq, Bool.false_eq_true, if_false, if_true, comps, zeros, fill, layAt, List.zip_cons_cons, List.zip_nil_left, List.zip_nil_right, List.all_cons, List.all_nil, storable, List.append_nil, List.cons_append, List.nil_append, true_and, and_self, Nat.le_refl, Bool.and_self, giveVs, giveV, adoptV, madeV, Option.map_some, List.map_cons, List.map_nil, loadV_addr, Nat.add_zero, storeV, setCells, layAt, cellsAt, borrow, borrowL, cut, theRow, comps, giveVs, giveV, List.getElem?_cons_zero, List.getElem?_cons_succ, List.drop_zero, List.take_succ_cons, List.take_zero, List.take_nil, List.all_cons, List.all_nil, storable, scalarD, Bool.and_self, Bool.false_eq_true, if_false, if_true, and_true, true_and, and_self, Nat.le_refl, false_implies, forall_const, forall_false, imp_false, not_false_eq_true, adoptVs, adoptV, ld, ld2, lendVs, lend_slice0, shareL, shareL_zf, shareL_di, shareL_blks, shareL_dg, dg_length, take_dg_self, shareV, tr, td, t2, t3', t4, t5, natO, ownOnlyL_dg]
      refine ⟨rfl, ?_⟩
      simp -implicitDefEqProofs (disch := first | omega | (apply calm_by; decide)) only [List.cons_append, List.nil_append, Ev_seq, Ev_region, Ev_skip, Ev_exit, Ev_ret, Ev_block, Ev_cond, Ev_ghost, Ev_draw_calm, GoOn_cmp, GoOn_nil, GoOn_thn, GoOn_thn_e, GoOn_thn_r, GoOn_blk, GoOn_blk_e, GoOn_blk_r, onN_n, onN_e, onN_r, Round_n, Round_e, Round_r, EvC_t, EvC_f, EvW_t, EvW_f, EvR_some, EvN_some, EvO_cons, EvO_nil, wanted, exec, put, passed, opd,
    List.length_cons, List.length_nil, Nat.zero_add, Nat.reduceAdd, List.replicate_succ, List.replicate_zero, List.set_cons_zero, List.set_cons_succ, List.getD_cons_zero, List.getD_cons_succ, Option.map_some, Option.map_none, List.map_cons, List.map_nil,
    bin_add, bin_sub, bin_mul, bin_eql, bin_neq, bin_lss, bin_leq, bin_gtr, bin_geq, bin_quo_nat, bin_rem_nat, bin_or_hi, bin_shr32, bin_shl32, lenV_slice, lenV_ref, ne_eq, not_false_eq_true, beq_true, beq_false, Bool.not_true, Bool.not_false, wrap_i64, wrap_u64, dec_t, dec_f, ite_t, ite_f, ibeq_t, ibeq_f, ibne_t, ibne_f, index_slice, index_ref, slice_slice_hi, slice_ref_hi, Int.natCast_add, Int.cast_ofNat_Int, Int.add_sub_cancel, Int.toNat_natCast, Int.toNat_natCast_add_one, Int.reduceToNat, Nat.mul_one, load_dg, shareL_dg, adoptV, if_true, if_false, ite_true, ite_false, Bool.true_eq, Bool.false_eq_true, beq_self_eq_true, reduceCtorEq, reduceIte, Nat.reduceMul, Nat.reduceSub, Nat.reduceLT, Nat.reduceLeDiff, Nat.reduceEqDiff, norm, keepLive, compact, List.range_zero, List.range_succ, List.nil_append, List.cons_append, List.append_nil, List.contains_cons, List.contains_nil, Bool.or_false, Bool.or_true, Bool.false_or, Bool.true_or, Nat.reduceBEq, beq_self_eq_true, idsL, ids, addId, List.filter_cons, List.filter_nil, decide_true, decide_false, List.map_cons, List.map_nil, maskD, within, withinL, mapD, mapL, subRows, getRow, List.idxOf_cons, List.idxOf_nil, cond_true, cond_false, Bool.and_true, Bool.true_and, if_true, if_false, Bool.false_eq_true, List.length_cons, List.length_nil, Nat.zero_add, Nat.reduceAdd, Nat.reduceLT, List.getD_cons_zero, List.getD_cons_succ, List.set_cons_zero, List.set_cons_succ, reduceIte, reduceCtorEq]
      exact ⟨n, by omega, i + 1, _, by omega, rfl, .inr rfl⟩
    · simp -implicitDefEqProofs (disch := first | omega | (apply calm_by; decide)) only [List.cons_append, List.nil_append, Ev_seq, Ev_region, Ev_skip, Ev_exit, Ev_ret, Ev_block, Ev_cond, Ev_ghost, Ev_draw_calm, GoOn_cmp, GoOn_nil, GoOn_thn, GoOn_thn_e, GoOn_thn_r, GoOn_blk, GoOn_blk_e, GoOn_blk_r, onN_n, onN_e, onN_r, Round_n, Round_e, Round_r, EvC_t, EvC_f, EvW_t, EvW_f, EvR_some, EvN_some, EvO_cons, EvO_nil, wanted, exec, put, passed, opd,
    List.length_cons, List.length_nil, Nat.zero_add, Nat.reduceAdd, List.replicate_succ, List.replicate_zero, List.set_cons_zero, List.set_cons_succ, List.getD_cons_zero, List.getD_cons_succ, Option.map_some, Option.map_none, List.map_cons, List.map_nil,
    bin_add, bin_sub, bin_mul, bin_eql, bin_neq, bin_lss, bin_leq, bin_gtr, bin_geq, bin_quo_nat, bin_rem_nat, bin_or_hi, bin_shr32, bin_shl32, lenV_slice, lenV_ref, ne_eq, not_false_eq_true, beq_true, beq_false, Bool.not_true, Bool.not_false, wrap_i64, wrap_u64, dec_t, dec_f, ite_t, ite_f, ibeq_t, ibeq_f, ibne_t, ibne_f, index_slice, index_ref, slice_slice_hi, slice_ref_hi, Int.natCast_add, Int.cast_ofNat_Int, Int.add_sub_cancel, Int.toNat_natCast, Int.toNat_natCast_add_one, Int.reduceToNat, Nat.mul_one, load_dg, shareL_dg, adoptV, if_true, if_false, ite_true, ite_false, Bool.true_eq, Bool.false_eq_true, beq_self_eq_true, reduceCtorEq, reduceIte, Nat.reduceMul, Nat.reduceSub, Nat.reduceLT, Nat.reduceLeDiff, Nat.reduceEqDiff, Ev_drawn, EvD_cons, EvD_nil, EvDR_some, xd_move, xd_assign, xd_bin, xd_conv, xd_field, xd_index, xd_load, xd_len, xd_extract, xd_build, xd_call, xd_makeSlice, xd_buildSlice, xd_append, xd_store, execAt, opIds, AOp.opds, slotsAt, List.sum_cons, List.sum_nil, List.take_succ_cons, List.take_zero, List.take_nil, List.range'_succ, List.range'_zero, Nat.add_zero, maskD, within, withinL, mapD, mapL, subRows, getRow, writeBack, addId, List.contains_cons, List.contains_nil, Nat.reduceBEq, List.idxOf_cons, List.idxOf_nil, cond_true, cond_false, List.append_nil, List.replicate_succ, List.replicate_zero, List.set_cons_zero, List.set_cons_succ, norm, keepLive, compact, List.range_zero, List.range_succ, List.nil_append, List.cons_append, List.append_nil, List.contains_cons, List.contains_nil, Bool.or_false, Bool.or_true, Bool.false_or, Bool.true_or, Nat.reduceBEq, beq_self_eq_true, idsL, ids, addId, List.filter_cons, List.filter_nil, decide_true, decide_false, List.map_cons, List.map_nil, maskD, within, withinL, mapD, mapL, subRows, getRow, List.idxOf_cons, List.idxOf_nil, cond_true, cond_false, Bool.and_true, Bool.true_and, if_true, if_false, Bool.false_eq_true, List.length_cons, List.length_nil, Nat.zero_add, Nat.reduceAdd, Nat.reduceLT, List.getD_cons_zero, List.getD_cons_succ, List.set_cons_zero, List.set_cons_succ, reduceIte, reduceCtorEq, callV, takeArgs, takeV, lendArgs, lendV, lendVs, List.headD_cons, List.headD_nil, List.tail_cons, List.tail_nil, List.contains_cons, List.contains_nil, m_al, m_sl, m_ol, m_ll, m_la, m_ls, m_lo, Bool.or_false, Bool.or_true, Bool.false_or, Bool.true_or, idsL, ids, madeV, shareV, shareVs, adoptV, adoptVs, ownOnly, ownOnlyL, Bool.true_and, Bool.and_true, Bool.and_false, Bool.false_and, List.isEmpty_nil, List.isEmpty_cons, giveV, giveVs, Bool.not_false, Bool.not_true, reduceCtorEq, Bool.false_eq_true, if_false, if_true, comps, zeros, fill, layAt, List.zip_cons_cons, List.zip_nil_left, List.zip_nil_right, List.all_cons, List.all_nil, storable, List.append_nil, List.cons_append, List.nil_append, true_and, and_self, Nat.le_refl, Bool.and_self, giveVs, giveV, adoptV, madeV, Option.map_some, List.map_cons, List.map_nil, loadV_addr, Nat.add_zero, storeV, setCells, layAt, cellsAt, borrow, borrowL, cut, theRow, comps, giveVs, giveV, List.getElem?_cons_zero, List.getElem?_cons_succ, List.drop_zero, List.take_succ_cons, List.take_zero, List.take_nil, List.all_cons, List.all_nil, storable, scalarD, Bool.and_self, Bool.false_eq_true, if_false, if_true, and_true, true_and, and_self, Nat.le_refl, false_implies, forall_const, forall_false, imp_false, not_false_eq_true, adoptVs, adoptV, ld, ld2, lendVs, lend_slice0, shareL_zf, shareL_di, shareL_blks, shareL_dg, dg_length, take_dg_self, shareV, tr, td, t2, t3, t4, t5, natO, ownOnlyL_dg]
      refine ⟨rfl, ?_⟩
      simp -implicitDefEqProofs (disch := first | omega | (apply calm_by; decide)) only [List.cons_append, List.nil_append, Ev_seq, Ev_region, Ev_skip, Ev_exit, Ev_ret, Ev_block, Ev_cond, Ev_ghost, Ev_draw_calm, GoOn_cmp, GoOn_nil, GoOn_thn, GoOn_thn_e, GoOn_thn_r, GoOn_blk, GoOn_blk_e, GoOn_blk_r, onN_n, onN_e, onN_r, Round_n, Round_e, Round_r, EvC_t, EvC_f, EvW_t, EvW_f, EvR_some, EvN_some, EvO_cons, EvO_nil, wanted, exec, put, passed, opd,
    List.length_cons, List.length_nil, Nat.zero_add, Nat.reduceAdd, List.replicate_succ, List.replicate_zero, List.set_cons_zero, List.set_cons_succ, List.getD_cons_zero, List.getD_cons_succ, Option.map_some, Option.map_none, List.map_cons, List.map_nil,
    bin_add, bin_sub, bin_mul, bin_eql, bin_neq, bin_lss, bin_leq, bin_gtr, bin_geq, bin_quo_nat, bin_rem_nat, bin_or_hi, bin_shr32, bin_shl32, lenV_slice, lenV_ref, ne_eq, not_false_eq_true, beq_true, beq_false, Bool.not_true, Bool.not_false, wrap_i64, wrap_u64, dec_t, dec_f, ite_t, ite_f, ibeq_t, ibeq_f, ibne_t, ibne_f, index_slice, index_ref, slice_slice_hi, slice_ref_hi, Int.natCast_add, Int.cast_ofNat_Int, Int.add_sub_cancel, Int.toNat_natCast, Int.toNat_natCast_add_one, Int.reduceToNat, Nat.mul_one, load_dg, shareL_dg, adoptV, if_true, if_false, ite_true, ite_false, Bool.true_eq, Bool.false_eq_true, beq_self_eq_true, reduceCtorEq, reduceIte, Nat.reduceMul, Nat.reduceSub, Nat.reduceLT, Nat.reduceLeDiff, Nat.reduceEqDiff, norm, keepLive, compact, List.range_zero, List.range_succ, List.nil_append, List.cons_append, List.append_nil, List.contains_cons, List.contains_nil, Bool.or_false, Bool.or_true, Bool.false_or, Bool.true_or, Nat.reduceBEq, beq_self_eq_true, idsL, ids, addId, List.filter_cons, List.filter_nil, decide_true, decide_false, List.map_cons, List.map_nil, maskD, within, withinL, mapD, mapL, subRows, getRow, List.idxOf_cons, List.idxOf_nil, cond_true, cond_false, Bool.and_true, Bool.true_and, if_true, if_false, Bool.false_eq_true, List.length_cons, List.length_nil, Nat.zero_add, Nat.reduceAdd, Nat.reduceLT, List.getD_cons_zero, List.getD_cons_succ, List.set_cons_zero, List.set_cons_succ, reduceIte, reduceCtorEq]
      exact ⟨n, by omega, i + 1, _, by omega, rfl, .inr rfl⟩
end
end Av
namespace Av
open Go
set_option linter.unusedSimpArgs false
set_option linter.unusedVariables false
theorem zeros_i64 : ∀ n, zeros [.int .i64 0] n = di (List.replicate n 0)
  | 0 => rfl
  | n + 1 => by rw [zeros, zeros_i64 n]; rfl
theorem di_set (a : List Int) (i : Nat) (z : Int) : (di a).set i (.int .i64 z) = di (a.set i z) := by simp [di, List.map_set]
theorem store_di (rows : Rows) (r v i : Nat) (a : List Int) (z : Int) (hr : rows[r]? = some (some ⟨di a, false, 0, 0⟩)) (h : i < a.length) :
    storeV rows true 1 (.addr r [] v i) (.int .i64 z) = some (rows.set r (some ⟨di (a.set i z), false, 0, 0⟩)) := by
  have h1 : theRow rows r = some ⟨di a, false, 0, 0⟩ := by unfold theRow; rw [hr]
  have h2 : i + 1 ≤ (di a).length := by rw [di_length]; omega
  simp [storeV, comps, giveVs, giveV, storable, scalarD, cellsAt, h1, setCells, layAt, h2, di_set]
theorem take_di_self (a : List Int) (n : Nat) (h : a.length = n) : (di a).take n = di a := by rw [List.take_of_length_le]; rw [di_length]; omega
theorem wAt_set (ks : List Nat) (n j : Nat) (hj : j < ks.length) : (List.replicate (j + 1) 0 ++ wAt (ks.drop (j + 1)) n).set j (chI (ks.getD j 0) (n / cnt (ks.drop (j + 1)) % (ks.getD j 0 + 1))) = List.replicate j 0 ++ wAt (ks.drop j) n := by
  rw [List.replicate_succ', List.append_assoc, List.set_append_right _ _ (by simp), List.length_replicate, Nat.sub_self, drop_get ks j hj]
  rfl
section
variable {T : Nat → Option Fun}
set_option maxHeartbeats 2000000 in
theorem atW_ok (h : Has1 T) (W : WF T) (ks : List Nat) (a : List Nat) (hk : Small ks) (hl : ks.length ≤ 63) (da : Dig a) (hla : a.length ≤ 2 ^ 30) (hlt : val a < cnt ks) :
    callW T 36 [sp ks, .slice false 1 a.length (dg a)] [] = some (.tup [.slice true 1 ks.length (di (wAt ks (val a))), .bool true], []) := by
  refine callW_ev (h 36 (.code F.f36) rfl) rfl ?_
  have tc := count_ok h W ks hk hl
  have hcl : (digs (cnt ks)).length ≤ 5 := digs_length_le (cnt_lt hk hl)
  have tm := cmp_ok h a (digs (cnt ks)) da (dig_digs _) (by omega) (by omega)
  rw [val_digs] at tm
  have ec : cmpI (val a) (cnt ks) = -1 := by simp [cmpI, hlt]
  rw [ec] at tm
  generalize digs (cnt ks) = C at *
  simp only [F.f36, sp, natO, adoptVs, adoptV, List.cons_append, List.nil_append] at tc ⊢
  have hroom : room ks.length 8 = true := room_t _ _ (by omega)
  simp -implicitDefEqProofs (disch := first | omega | (apply calm_by; decide)) only [List.cons_append, List.nil_append, Ev_seq, Ev_region, Ev_skip, Ev_exit, Ev_ret, Ev_block, Ev_cond, Ev_ghost, Ev_draw_calm, GoOn_cmp, GoOn_nil, GoOn_thn, GoOn_thn_e, GoOn_thn_r, GoOn_blk, GoOn_blk_e, GoOn_blk_r, onN_n, onN_e, onN_r, Round_n, Round_e, Round_r, EvC_t, EvC_f, EvW_t, EvW_f, EvR_some, EvN_some, EvO_cons, EvO_nil, wanted, exec, put, passed, opd,
    List.length_cons, List.length_nil, Nat.zero_add, Nat.reduceAdd, List.replicate_succ, List.replicate_zero, List.set_cons_zero, List.set_cons_succ, List.getD_cons_zero, List.getD_cons_succ, Option.map_some, Option.map_none, List.map_cons, List.map_nil,
    bin_add, bin_sub, bin_mul, bin_eql, bin_neq, bin_lss, bin_leq, bin_gtr, bin_geq, bin_quo_nat, bin_rem_nat, bin_or_hi, bin_shr32, bin_shl32, lenV_slice, lenV_ref, ne_eq, not_false_eq_true, beq_true, beq_false, Bool.not_true, Bool.not_false, wrap_i64, wrap_u64, dec_t, dec_f, ite_t, ite_f, ibeq_t, ibeq_f, ibne_t, ibne_f, index_slice, index_ref, slice_slice_hi, slice_ref_hi, Int.natCast_add, Int.cast_ofNat_Int, Int.add_sub_cancel, Int.toNat_natCast, Int.toNat_natCast_add_one, Int.reduceToNat, Nat.mul_one, load_dg, shareL_dg, adoptV, if_true, if_false, ite_true, ite_false, Bool.true_eq, Bool.false_eq_true, beq_self_eq_true, reduceCtorEq, reduceIte, Nat.reduceMul, Nat.reduceSub, Nat.reduceLT, Nat.reduceLeDiff, Nat.reduceEqDiff, callV, takeArgs, takeV, lendArgs, lendV, lendVs, List.headD_cons, List.headD_nil, List.tail_cons, List.tail_nil, List.contains_cons, List.contains_nil, m_al, m_sl, m_ol, m_ll, m_la, m_ls, m_lo, Bool.or_false, Bool.or_true, Bool.false_or, Bool.true_or, idsL, ids, madeV, shareV, shareVs, adoptV, adoptVs, ownOnly, ownOnlyL, Bool.true_and, Bool.and_true, Bool.and_false, Bool.false_and, List.isEmpty_nil, List.isEmpty_cons, giveV, giveVs, Bool.not_false, Bool.not_true, reduceCtorEq, Bool.false_eq_true, if_false, if_true, comps, zeros, fill, layAt, List.zip_cons_cons, List.zip_nil_left, List.zip_nil_right, List.all_cons, List.all_nil, storable, List.append_nil, List.cons_append, List.nil_append, true_and, and_self, Nat.le_refl, Bool.and_self, giveVs, giveV, adoptV, madeV, Option.map_some, List.map_cons, List.map_nil, loadV_addr, Nat.add_zero, storeV, setCells, layAt, cellsAt, borrow, borrowL, cut, theRow, comps, giveVs, giveV, List.getElem?_cons_zero, List.getElem?_cons_succ, List.drop_zero, List.take_succ_cons, List.take_zero, List.take_nil, List.all_cons, List.all_nil, storable, scalarD, Bool.and_self, Bool.false_eq_true, if_false, if_true, and_true, true_and, and_self, Nat.le_refl, false_implies, forall_const, forall_false, imp_false, not_false_eq_true, adoptVs, adoptV, shareL_blks, shareL_dg, shareV, tc, tm, lendVs, lend_slice0, hroom, zeros_i64, ownOnlyL_dg]
  refine Ev_loop (fun m st => ∃ (A : List Nat), m ≤ ks.length ∧ Dig A ∧ A.length ≤ 2 ^ 30 ∧ val A = val a / cnt (ks.drop m) ∧
    st = ⟨[.undef, .slice false 1 A.length (dg A), .addr 0 [] 0 0, .undef, .undef, .ref 1 [] 0 0 ks.length 1, .int .i64 ((m : Int) - 1), .undef, .undef, .undef, .undef], [], [some ⟨[.slice false 1 ks.length (blks ks)], false, 0, 0⟩, some ⟨di (List.replicate m 0 ++ wAt (ks.drop m) (val a)), false, 0, 0⟩], 0⟩) ks.length
    ⟨a, Nat.le_refl _, da, hla, by rw [List.drop_length, cnt, Nat.div_one], ?_⟩ ?_
  · rw [List.drop_length, wAt, List.append_nil]; simp only [norm, keepLive, compact, List.range_zero, List.range_succ, List.nil_append, List.cons_append, List.append_nil, List.contains_cons, List.contains_nil, Bool.or_false, Bool.or_true, Bool.false_or, Bool.true_or, Nat.reduceBEq, beq_self_eq_true, idsL, ids, addId, List.filter_cons, List.filter_nil, decide_true, decide_false, List.map_cons, List.map_nil, maskD, within, withinL, mapD, mapL, subRows, getRow, List.idxOf_cons, List.idxOf_nil, cond_true, cond_false, Bool.and_true, Bool.true_and, if_true, if_false, Bool.false_eq_true, List.length_cons, List.length_nil, Nat.zero_add, Nat.reduceAdd, Nat.reduceLT, List.getD_cons_zero, List.getD_cons_succ, List.set_cons_zero, List.set_cons_succ, reduceIte, reduceCtorEq]
  rintro m st ⟨A, hm, dA, lA, hv, rfl⟩
  cases m with
  | zero =>
    have e := take_di_self (wAt ks (val a)) ks.length (wAt_length _ _)
    simp -implicitDefEqProofs (disch := first | omega | (apply calm_by; decide)) only [List.cons_append, List.nil_append, Ev_seq, Ev_region, Ev_skip, Ev_exit, Ev_ret, Ev_block, Ev_cond, Ev_ghost, Ev_draw_calm, GoOn_cmp, GoOn_nil, GoOn_thn, GoOn_thn_e, GoOn_thn_r, GoOn_blk, GoOn_blk_e, GoOn_blk_r, onN_n, onN_e, onN_r, Round_n, Round_e, Round_r, EvC_t, EvC_f, EvW_t, EvW_f, EvR_some, EvN_some, EvO_cons, EvO_nil, wanted, exec, put, passed, opd,
    List.length_cons, List.length_nil, Nat.zero_add, Nat.reduceAdd, List.replicate_succ, List.replicate_zero, List.set_cons_zero, List.set_cons_succ, List.getD_cons_zero, List.getD_cons_succ, Option.map_some, Option.map_none, List.map_cons, List.map_nil,
    bin_add, bin_sub, bin_mul, bin_eql, bin_neq, bin_lss, bin_leq, bin_gtr, bin_geq, bin_quo_nat, bin_rem_nat, bin_or_hi, bin_shr32, bin_shl32, lenV_slice, lenV_ref, ne_eq, not_false_eq_true, beq_true, beq_false, Bool.not_true, Bool.not_false, wrap_i64, wrap_u64, dec_t, dec_f, ite_t, ite_f, ibeq_t, ibeq_f, ibne_t, ibne_f, index_slice, index_ref, slice_slice_hi, slice_ref_hi, Int.natCast_add, Int.cast_ofNat_Int, Int.add_sub_cancel, Int.toNat_natCast, Int.toNat_natCast_add_one, Int.reduceToNat, Nat.mul_one, load_dg, shareL_dg, adoptV, if_true, if_false, ite_true, ite_false, Bool.true_eq, Bool.false_eq_true, beq_self_eq_true, reduceCtorEq, reduceIte, Nat.reduceMul, Nat.reduceSub, Nat.reduceLT, Nat.reduceLeDiff, Nat.reduceEqDiff, callV, takeArgs, takeV, lendArgs, lendV, lendVs, List.headD_cons, List.headD_nil, List.tail_cons, List.tail_nil, List.contains_cons, List.contains_nil, m_al, m_sl, m_ol, m_ll, m_la, m_ls, m_lo, Bool.or_false, Bool.or_true, Bool.false_or, Bool.true_or, idsL, ids, madeV, shareV, shareVs, adoptV, adoptVs, ownOnly, ownOnlyL, Bool.true_and, Bool.and_true, Bool.and_false, Bool.false_and, List.isEmpty_nil, List.isEmpty_cons, giveV, giveVs, Bool.not_false, Bool.not_true, reduceCtorEq, Bool.false_eq_true, if_false, if_true, dg_length, take_dg, List.take_length, ends_n, ends_r, results, resVs, resV, giveV, giveVs, shareV, theRow, List.getElem?_cons_zero, List.getElem?_cons_succ, Option.map_some, List.take_zero, List.take_nil, List.take_succ_cons, List.drop_zero, List.replicate_zero, List.nil_append, e, di_length, wAt_length]
  | succ j =>
    have hset := wAt_set ks (val a) j (by omega)
    have hlen : (List.replicate (j + 1) 0 ++ wAt (ks.drop (j + 1)) (val a)).length = ks.length := by rw [List.length_append, List.length_replicate, wAt_length, List.length_drop]; omega
    have hcd : cnt (ks.drop j) = (ks.getD j 0 + 1) * cnt (ks.drop (j + 1)) := by rw [drop_get ks j (by omega), cnt]
    have hki := hk.get j
    have ld := fun rows => load_blk rows ks j (by omega)
    generalize List.replicate (j + 1) 0 ++ wAt (ks.drop (j + 1)) (val a) = R at *
    generalize ks.getD j 0 = k at *
    rw [← hv] at hset
    have hq : val A / (k + 1) = val a / cnt (ks.drop j) := by rw [hv, hcd, Nat.div_div_eq_div_mul, Nat.mul_comm]
    have hkk : blk k = .slice false 3 k (zf k) := rfl
    have tr := radix_ok h k (by omega)
    have hml := Nat.mod_lt (val A) (show 0 < k + 1 by omega)
    have td := choice_ok h k ((val A % (k + 1) : Nat) : Int) (by omega)
    rw [hkk] at ld tr td
    have ed : (if ((val A % (k + 1) : Nat) : Int) = (k : Int) then -1 else ((val A % (k + 1) : Nat) : Int)) = chI k (val A % (k + 1)) := by unfold chI; split <;> split <;> omega
    rw [ed] at td
    have t2 := from_ok h (k + 1) (by omega)
    have l2 : (digs (k + 1)).length ≤ 1 := digs_length_le (by omega)
    have t3 := divMod_ok h A (digs (k + 1)) dA (dig_digs _) (by omega) (by omega) (by rw [val_digs]; omega)
    rw [val_digs] at t3
    have l4 : (digs (val A % (k + 1))).length ≤ 1 := digs_length_le (by omega)
    have t4 := uint64_ok h (digs (val A % (k + 1))) (dig_digs _) (by omega) (by rw [val_digs]; omega)
    rw [val_digs] at t4
    have hql : (digs (val A / (k + 1))).length ≤ 2 ^ 30 := by
      have h1 : val A / (k + 1) < 4294967296 ^ A.length := Nat.lt_of_le_of_lt (Nat.div_le_self _ _) (val_lt dA)
      exact Nat.le_trans (digs_length_le h1) lA
    have dq := dig_digs (val A / (k + 1))
    have vq := val_digs (val A / (k + 1))
    simp only [Int.natCast_add, Int.cast_ofNat_Int] at t2
    generalize digs (val A % (k + 1)) = M at *
    generalize digs (val A / (k + 1)) = Q at *
    generalize digs (k + 1) = E at *
    generalize val A % (k + 1) = d at *
    simp -implicitDefEqProofs (disch := first | omega | (apply calm_by; decide)) only [List.cons_append, List.nil_append, Ev_seq, Ev_region, Ev_skip, Ev_exit, Ev_ret, Ev_block, Ev_cond, Ev_ghost, Ev_draw_calm, GoOn_cmp, GoOn_nil, GoOn_thn, GoOn_thn_e, GoOn_thn_r, GoOn_blk, GoOn_blk_e, GoOn_blk_r, onN_n, onN_e, onN_r, Round_n, Round_e, Round_r, EvC_t, EvC_f, EvW_t, EvW_f, EvR_some, EvN_some, EvO_cons, EvO_nil, wanted, exec, put, passed, opd,
    List.length_cons, List.length_nil, Nat.zero_add, Nat.reduceAdd, List.replicate_succ, List.replicate_zero, List.set_cons_zero, List.set_cons_succ, List.getD_cons_zero, List.getD_cons_succ, Option.map_some, Option.map_none, List.map_cons, List.map_nil,
    bin_add, bin_sub, bin_mul, bin_eql, bin_neq, bin_lss, bin_leq, bin_gtr, bin_geq, bin_quo_nat, bin_rem_nat, bin_or_hi, bin_shr32, bin_shl32, lenV_slice, lenV_ref, ne_eq, not_false_eq_true, beq_true, beq_false, Bool.not_true, Bool.not_false, wrap_i64, wrap_u64, dec_t, dec_f, ite_t, ite_f, ibeq_t, ibeq_f, ibne_t, ibne_f, index_slice, index_ref, slice_slice_hi, slice_ref_hi, Int.natCast_add, Int.cast_ofNat_Int, Int.add_sub_cancel, Int.toNat_natCast, Int.toNat_natCast_add_one, Int.reduceToNat, Nat.mul_one, load_dg, shareL_dg, adoptV, if_true, if_false, ite_true, ite_false, Bool.true_eq, Bool.false_eq_true, beq_self_eq_true, reduceCtorEq, reduceIte, Nat.reduceMul, Nat.reduceSub, Nat.reduceLT, Nat.reduceLeDiff, Nat.reduceEqDiff, norm, keepLive, compact, List.range_zero, List.range_succ, List.nil_append, List.cons_append, List.append_nil, List.contains_cons, List.contains_nil, Bool.or_false, Bool.or_true, Bool.false_or, Bool.true_or, Nat.reduceBEq, beq_self_eq_true, idsL, ids, addId, List.filter_cons, List.filter_nil, decide_true, decide_false, List.map_cons, List.map_nil, maskD, within, withinL, mapD, mapL, subRows, getRow, List.idxOf_cons, List.idxOf_nil, cond_true, cond_false, Bool.and_true, Bool.true_and, if_true, if_false, Bool.false_eq_true, List.length_cons, List.length_nil, Nat.zero_add, Nat.reduceAdd, Nat.reduceLT, List.getD_cons_zero, List.getD_cons_succ, List.set_cons_zero, List.set_cons_succ, reduceIte, reduceCtorEq, callV, takeArgs, takeV, lendArgs, lendV, lendVs, List.headD_cons, List.headD_nil, List.tail_cons, List.tail_nil, List.contains_cons, List.contains_nil, m_al, m_sl, m_ol, m_ll, m_la, m_ls, m_lo, Bool.or_false, Bool.or_true, Bool.false_or, Bool.true_or, idsL, ids, madeV, shareV, shareVs, adoptV, adoptVs, ownOnly, ownOnlyL, Bool.true_and, Bool.and_true, Bool.and_false, Bool.false_and, List.isEmpty_nil, List.isEmpty_cons, giveV, giveVs, Bool.not_false, Bool.not_true, reduceCtorEq, Bool.false_eq_true, if_false, if_true, comps, zeros, fill, layAt, List.zip_cons_cons, List.zip_nil_left, List.zip_nil_right, List.all_cons, List.all_nil, storable, List.append_nil, List.cons_append, List.nil_append, true_and, and_self, Nat.le_refl, Bool.and_self, giveVs, giveV, adoptV, madeV, Option.map_some, List.map_cons, List.map_nil, loadV_addr, Nat.add_zero, storeV, setCells, layAt, cellsAt, borrow, borrowL, cut, theRow, comps, giveVs, giveV, List.getElem?_cons_zero, List.getElem?_cons_succ, List.drop_zero, List.take_succ_cons, List.take_zero, List.take_nil, List.all_cons, List.all_nil, storable, scalarD, Bool.and_self, Bool.false_eq_true, if_false, if_true, and_true, true_and, and_self, Nat.le_refl, false_implies, forall_const, forall_false, imp_false, not_false_eq_true, adoptVs, adoptV, ld, lendVs, lend_slice0, shareL_zf, shareL_di, shareL_blks, shareL_dg, dg_length, take_dg_self, shareV, tr, td, t2, t3, t4, natO, ownOnlyL_dg, di_length, di_set, hlen]
    exact ⟨j, by omega, Q, by omega, dq, hql, by rw [vq, hq], by rw [hset]⟩

theorem atW_no (h : Has1 T) (W : WF T) (ks : List Nat) (a : List Nat) (hk : Small ks) (hl : ks.length ≤ 63) (da : Dig a) (hla : a.length ≤ 2 ^ 30) (hge : cnt ks ≤ val a) :
    callW T 36 [sp ks, .slice false 1 a.length (dg a)] [] = some (.tup [.slice true 1 0 [], .bool false], []) := by
  refine callW_ev (h 36 (.code F.f36) rfl) rfl ?_
  have tc := count_ok h W ks hk hl
  have hcl : (digs (cnt ks)).length ≤ 5 := digs_length_le (cnt_lt hk hl)
  have tm := cmp_ok h a (digs (cnt ks)) da (dig_digs _) (by omega) (by omega)
  rw [val_digs] at tm
  have ec : 0 ≤ cmpI (val a) (cnt ks) := by unfold cmpI; rw [if_neg (by omega)]; split <;> omega
  generalize cmpI (val a) (cnt ks) = z at *
  generalize digs (cnt ks) = C at *
  simp only [F.f36, sp, natO, adoptVs, adoptV, List.cons_append, List.nil_append] at tc ⊢
  simp -implicitDefEqProofs (disch := first | omega | (apply calm_by; decide)) only [List.cons_append, List.nil_append, Ev_seq, Ev_region, Ev_skip, Ev_exit, Ev_ret, Ev_block, Ev_cond, Ev_ghost, Ev_draw_calm, GoOn_cmp, GoOn_nil, GoOn_thn, GoOn_thn_e, GoOn_thn_r, GoOn_blk, GoOn_blk_e, GoOn_blk_r, onN_n, onN_e, onN_r, Round_n, Round_e, Round_r, EvC_t, EvC_f, EvW_t, EvW_f, EvR_some, EvN_some, EvO_cons, EvO_nil, wanted, exec, put, passed, opd,
    List.length_cons, List.length_nil, Nat.zero_add, Nat.reduceAdd, List.replicate_succ, List.replicate_zero, List.set_cons_zero, List.set_cons_succ, List.getD_cons_zero, List.getD_cons_succ, Option.map_some, Option.map_none, List.map_cons, List.map_nil,
    bin_add, bin_sub, bin_mul, bin_eql, bin_neq, bin_lss, bin_leq, bin_gtr, bin_geq, bin_quo_nat, bin_rem_nat, bin_or_hi, bin_shr32, bin_shl32, lenV_slice, lenV_ref, ne_eq, not_false_eq_true, beq_true, beq_false, Bool.not_true, Bool.not_false, wrap_i64, wrap_u64, dec_t, dec_f, ite_t, ite_f, ibeq_t, ibeq_f, ibne_t, ibne_f, index_slice, index_ref, slice_slice_hi, slice_ref_hi, Int.natCast_add, Int.cast_ofNat_Int, Int.add_sub_cancel, Int.toNat_natCast, Int.toNat_natCast_add_one, Int.reduceToNat, Nat.mul_one, load_dg, shareL_dg, adoptV, if_true, if_false, ite_true, ite_false, Bool.true_eq, Bool.false_eq_true, beq_self_eq_true, reduceCtorEq, reduceIte, Nat.reduceMul, Nat.reduceSub, Nat.reduceLT, Nat.reduceLeDiff, Nat.reduceEqDiff, callV, takeArgs, takeV, lendArgs, lendV, lendVs, List.headD_cons, List.headD_nil, List.tail_cons, List.tail_nil, List.contains_cons, List.contains_nil, m_al, m_sl, m_ol, m_ll, m_la, m_ls, m_lo, Bool.or_false, Bool.or_true, Bool.false_or, Bool.true_or, idsL, ids, madeV, shareV, shareVs, adoptV, adoptVs, ownOnly, ownOnlyL, Bool.true_and, Bool.and_true, Bool.and_false, Bool.false_and, List.isEmpty_nil, List.isEmpty_cons, giveV, giveVs, Bool.not_false, Bool.not_true, reduceCtorEq, Bool.false_eq_true, if_false, if_true, comps, zeros, fill, layAt, List.zip_cons_cons, List.zip_nil_left, List.zip_nil_right, List.all_cons, List.all_nil, storable, List.append_nil, List.cons_append, List.nil_append, true_and, and_self, Nat.le_refl, Bool.and_self, giveVs, giveV, adoptV, madeV, Option.map_some, List.map_cons, List.map_nil, loadV_addr, Nat.add_zero, storeV, setCells, layAt, cellsAt, borrow, borrowL, cut, theRow, comps, giveVs, giveV, List.getElem?_cons_zero, List.getElem?_cons_succ, List.drop_zero, List.take_succ_cons, List.take_zero, List.take_nil, List.all_cons, List.all_nil, storable, scalarD, Bool.and_self, Bool.false_eq_true, if_false, if_true, and_true, true_and, and_self, Nat.le_refl, false_implies, forall_const, forall_false, imp_false, not_false_eq_true, adoptVs, adoptV, dg_length, take_dg, List.take_length, ends_n, ends_r, results, resVs, resV, giveV, giveVs, shareV, theRow, List.getElem?_cons_zero, List.getElem?_cons_succ, Option.map_some, List.take_zero, List.take_nil, List.take_succ_cons, shareL_blks, shareL_dg, shareV, tc, tm, lendVs, lend_slice0, ownOnlyL_dg]
end
end Av
namespace Av
open Go
set_option linter.unusedSimpArgs false
set_option linter.unusedVariables false
/-- credencebase.World. -/
def wldF (raw : List Int) (ks : List Nat) (i : Nat) : Int := ((atN raw i % (ks.getD i 0 + 1) : Nat) : Int) - 1
def wld (raw : List Int) (ks : List Nat) (n : Nat) : List Int := (List.range n).map (wldF raw ks)
theorem wld_length (raw : List Int) (ks : List Nat) (n : Nat) : (wld raw ks n).length = n := by simp [wld]
theorem wld_succ (raw : List Int) (ks : List Nat) (n : Nat) : wld raw ks (n + 1) = wld raw ks n ++ [wldF raw ks n] := by simp [wld, List.range_succ]
theorem di_append (a b : List Int) : di (a ++ b) = di a ++ di b := by simp [di]
theorem wld_in (raw : List Int) (ks : List Nat) : InW ks (wld raw ks ks.length) := by
  refine ⟨wld_length _ _ _, fun i hi => ?_⟩
  have e : (wld raw ks ks.length).getD i 0 = wldF raw ks i := by simp [wld, hi]
  rw [e]
  unfold wldF
  have := Nat.mod_lt (atN raw i) (show 0 < ks.getD i 0 + 1 by omega)
  omega
section
variable {T : Nat → Option Fun}
set_option maxHeartbeats 2000000 in
theorem world_ok (h : Has1 T) (ks : List Nat) (raw : List Int) (hk : Small ks) (hl : ks.length ≤ 63) (hr : raw.length < 2 ^ 63) :
    callW T 41 [sp ks, .slice false 1 raw.length (di raw)] [] = some (.slice true 1 ks.length (di (wld raw ks ks.length)), []) := by
  refine callW_ev (h 41 (.code F.f41) rfl) rfl ?_
  simp only [F.f41, sp, adoptVs, adoptV, List.cons_append, List.nil_append]
  simp -implicitDefEqProofs (disch := first | omega | (apply calm_by; decide)) only [List.cons_append, List.nil_append, Ev_seq, Ev_region, Ev_skip, Ev_exit, Ev_ret, Ev_block, Ev_cond, Ev_ghost, Ev_draw_calm, GoOn_cmp, GoOn_nil, GoOn_thn, GoOn_thn_e, GoOn_thn_r, GoOn_blk, GoOn_blk_e, GoOn_blk_r, onN_n, onN_e, onN_r, Round_n, Round_e, Round_r, EvC_t, EvC_f, EvW_t, EvW_f, EvR_some, EvN_some, EvO_cons, EvO_nil, wanted, exec, put, passed, opd,
    List.length_cons, List.length_nil, Nat.zero_add, Nat.reduceAdd, List.replicate_succ, List.replicate_zero, List.set_cons_zero, List.set_cons_succ, List.getD_cons_zero, List.getD_cons_succ, Option.map_some, Option.map_none, List.map_cons, List.map_nil,
    bin_add, bin_sub, bin_mul, bin_eql, bin_neq, bin_lss, bin_leq, bin_gtr, bin_geq, bin_quo_nat, bin_rem_nat, bin_or_hi, bin_shr32, bin_shl32, lenV_slice, lenV_ref, ne_eq, not_false_eq_true, beq_true, beq_false, Bool.not_true, Bool.not_false, wrap_i64, wrap_u64, dec_t, dec_f, ite_t, ite_f, ibeq_t, ibeq_f, ibne_t, ibne_f, index_slice, index_ref, slice_slice_hi, slice_ref_hi, Int.natCast_add, Int.cast_ofNat_Int, Int.add_sub_cancel, Int.toNat_natCast, Int.toNat_natCast_add_one, Int.reduceToNat, Nat.mul_one, load_dg, shareL_dg, adoptV, if_true, if_false, ite_true, ite_false, Bool.true_eq, Bool.false_eq_true, beq_self_eq_true, reduceCtorEq, reduceIte, Nat.reduceMul, Nat.reduceSub, Nat.reduceLT, Nat.reduceLeDiff, Nat.reduceEqDiff, callV, takeArgs, takeV, lendArgs, lendV, lendVs, List.headD_cons, List.headD_nil, List.tail_cons, List.tail_nil, List.contains_cons, List.contains_nil, m_al, m_sl, m_ol, m_ll, m_la, m_ls, m_lo, Bool.or_false, Bool.or_true, Bool.false_or, Bool.true_or, idsL, ids, madeV, shareV, shareVs, adoptV, adoptVs, ownOnly, ownOnlyL, Bool.true_and, Bool.and_true, Bool.and_false, Bool.false_and, List.isEmpty_nil, List.isEmpty_cons, giveV, giveVs, Bool.not_false, Bool.not_true, reduceCtorEq, Bool.false_eq_true, if_false, if_true, comps, zeros, fill, layAt, List.zip_cons_cons, List.zip_nil_left, List.zip_nil_right, List.all_cons, List.all_nil, storable, List.append_nil, List.cons_append, List.nil_append, true_and, and_self, Nat.le_refl, Bool.and_self, giveVs, giveV, adoptV, madeV, Option.map_some, List.map_cons, List.map_nil, loadV_addr, Nat.add_zero, storeV, setCells, layAt, cellsAt, borrow, borrowL, cut, theRow, comps, giveVs, giveV, List.getElem?_cons_zero, List.getElem?_cons_succ, List.drop_zero, List.take_succ_cons, List.take_zero, List.take_nil, List.all_cons, List.all_nil, storable, scalarD, Bool.and_self, Bool.false_eq_true, if_false, if_true, and_true, true_and, and_self, Nat.le_refl, false_implies, forall_const, forall_false, imp_false, not_false_eq_true, adoptVs, adoptV, shareL_blks, shareL_di]
  refine Ev_loop (fun m st => ∃ i : Nat, i + m = ks.length ∧ st = ⟨[.undef, .slice false 1 raw.length (di raw), .addr 0 [] 0 0, .undef, .ref 1 [] 0 0 i 1, .int .i64 i], [], [some ⟨[.slice false 1 ks.length (blks ks)], false, 0, 0⟩, some ⟨di (wld raw ks i), false, 0, 0⟩], 0⟩) ks.length
    ⟨0, by omega, ?_⟩ ?_
  · simp only [norm, keepLive, compact, List.range_zero, List.range_succ, List.nil_append, List.cons_append, List.append_nil, List.contains_cons, List.contains_nil, Bool.or_false, Bool.or_true, Bool.false_or, Bool.true_or, Nat.reduceBEq, beq_self_eq_true, idsL, ids, addId, List.filter_cons, List.filter_nil, decide_true, decide_false, List.map_cons, List.map_nil, maskD, within, withinL, mapD, mapL, subRows, getRow, List.idxOf_cons, List.idxOf_nil, cond_true, cond_false, Bool.and_true, Bool.true_and, if_true, if_false, Bool.false_eq_true, List.length_cons, List.length_nil, Nat.zero_add, Nat.reduceAdd, Nat.reduceLT, List.getD_cons_zero, List.getD_cons_succ, List.set_cons_zero, List.set_cons_succ, reduceIte, reduceCtorEq]; rfl
  rintro m st ⟨i, hi, rfl⟩
  cases m with
  | zero =>
    have ei : i = ks.length := by omega
    subst ei
    have e := take_di_self (wld raw ks ks.length) ks.length (wld_length _ _ _)
    simp -implicitDefEqProofs (disch := first | omega | (apply calm_by; decide)) only [List.cons_append, List.nil_append, Ev_seq, Ev_region, Ev_skip, Ev_exit, Ev_ret, Ev_block, Ev_cond, Ev_ghost, Ev_draw_calm, GoOn_cmp, GoOn_nil, GoOn_thn, GoOn_thn_e, GoOn_thn_r, GoOn_blk, GoOn_blk_e, GoOn_blk_r, onN_n, onN_e, onN_r, Round_n, Round_e, Round_r, EvC_t, EvC_f, EvW_t, EvW_f, EvR_some, EvN_some, EvO_cons, EvO_nil, wanted, exec, put, passed, opd,
    List.length_cons, List.length_nil, Nat.zero_add, Nat.reduceAdd, List.replicate_succ, List.replicate_zero, List.set_cons_zero, List.set_cons_succ, List.getD_cons_zero, List.getD_cons_succ, Option.map_some, Option.map_none, List.map_cons, List.map_nil,
    bin_add, bin_sub, bin_mul, bin_eql, bin_neq, bin_lss, bin_leq, bin_gtr, bin_geq, bin_quo_nat, bin_rem_nat, bin_or_hi, bin_shr32, bin_shl32, lenV_slice, lenV_ref, ne_eq, not_false_eq_true, beq_true, beq_false, Bool.not_true, Bool.not_false, wrap_i64, wrap_u64, dec_t, dec_f, ite_t, ite_f, ibeq_t, ibeq_f, ibne_t, ibne_f, index_slice, index_ref, slice_slice_hi, slice_ref_hi, Int.natCast_add, Int.cast_ofNat_Int, Int.add_sub_cancel, Int.toNat_natCast, Int.toNat_natCast_add_one, Int.reduceToNat, Nat.mul_one, load_dg, shareL_dg, adoptV, if_true, if_false, ite_true, ite_false, Bool.true_eq, Bool.false_eq_true, beq_self_eq_true, reduceCtorEq, reduceIte, Nat.reduceMul, Nat.reduceSub, Nat.reduceLT, Nat.reduceLeDiff, Nat.reduceEqDiff, callV, takeArgs, takeV, lendArgs, lendV, lendVs, List.headD_cons, List.headD_nil, List.tail_cons, List.tail_nil, List.contains_cons, List.contains_nil, m_al, m_sl, m_ol, m_ll, m_la, m_ls, m_lo, Bool.or_false, Bool.or_true, Bool.false_or, Bool.true_or, idsL, ids, madeV, shareV, shareVs, adoptV, adoptVs, ownOnly, ownOnlyL, Bool.true_and, Bool.and_true, Bool.and_false, Bool.false_and, List.isEmpty_nil, List.isEmpty_cons, giveV, giveVs, Bool.not_false, Bool.not_true, reduceCtorEq, Bool.false_eq_true, if_false, if_true, loadV_addr, Nat.add_zero, storeV, setCells, layAt, cellsAt, borrow, borrowL, cut, theRow, comps, giveVs, giveV, List.getElem?_cons_zero, List.getElem?_cons_succ, List.drop_zero, List.take_succ_cons, List.take_zero, List.take_nil, List.all_cons, List.all_nil, storable, scalarD, Bool.and_self, Bool.false_eq_true, if_false, if_true, and_true, true_and, and_self, Nat.le_refl, false_implies, forall_const, forall_false, imp_false, not_false_eq_true, adoptVs, adoptV, dg_length, take_dg, List.take_length, ends_n, ends_r, results, resVs, resV, giveV, giveVs, shareV, theRow, List.getElem?_cons_zero, List.getElem?_cons_succ, Option.map_some, List.take_zero, List.take_nil, List.take_succ_cons, e, di_length, wld_length]
  | succ m =>
    have ta := at_ok h raw i hr (by omega)
    have hle := atN_le raw i
    have hki := hk.get i
    have ld := fun rows => load_blk1 rows ks i (by omega)
    have hws := wld_succ raw ks i
    have hwl := wld_length raw ks i
    have hroom : room (i + 1) 8 = true := room_t _ _ (by omega)
    unfold wldF at hws
    have hml := Nat.mod_lt (atN raw i) (show 0 < ks.getD i 0 + 1 by omega)
    have hrem := bin_rem_nat .i64 (atN raw i) (ks.getD i 0 + 1) (by omega)
    simp only [Int.natCast_add, Int.cast_ofNat_Int] at hrem
    generalize wld raw ks i = V at *
    generalize ks.getD i 0 = k at *
    generalize atN raw i = x at *
    have hkk : blk k = .slice false 3 k (zf k) := rfl
    rw [hkk] at ld
    simp -implicitDefEqProofs (disch := first | omega | (apply calm_by; decide)) only [List.cons_append, List.nil_append, Ev_seq, Ev_region, Ev_skip, Ev_exit, Ev_ret, Ev_block, Ev_cond, Ev_ghost, Ev_draw_calm, GoOn_cmp, GoOn_nil, GoOn_thn, GoOn_thn_e, GoOn_thn_r, GoOn_blk, GoOn_blk_e, GoOn_blk_r, onN_n, onN_e, onN_r, Round_n, Round_e, Round_r, EvC_t, EvC_f, EvW_t, EvW_f, EvR_some, EvN_some, EvO_cons, EvO_nil, wanted, exec, put, passed, opd,
    List.length_cons, List.length_nil, Nat.zero_add, Nat.reduceAdd, List.replicate_succ, List.replicate_zero, List.set_cons_zero, List.set_cons_succ, List.getD_cons_zero, List.getD_cons_succ, Option.map_some, Option.map_none, List.map_cons, List.map_nil,
    bin_add, bin_sub, bin_mul, bin_eql, bin_neq, bin_lss, bin_leq, bin_gtr, bin_geq, bin_quo_nat, bin_rem_nat, bin_or_hi, bin_shr32, bin_shl32, lenV_slice, lenV_ref, ne_eq, not_false_eq_true, beq_true, beq_false, Bool.not_true, Bool.not_false, wrap_i64, wrap_u64, dec_t, dec_f, ite_t, ite_f, ibeq_t, ibeq_f, ibne_t, ibne_f, index_slice, index_ref, slice_slice_hi, slice_ref_hi, Int.natCast_add, Int.cast_ofNat_Int, Int.add_sub_cancel, Int.toNat_natCast, Int.toNat_natCast_add_one, Int.reduceToNat, Nat.mul_one, load_dg, shareL_dg, adoptV, if_true, if_false, ite_true, ite_false, Bool.true_eq, Bool.false_eq_true, beq_self_eq_true, reduceCtorEq, reduceIte, Nat.reduceMul, Nat.reduceSub, Nat.reduceLT, Nat.reduceLeDiff, Nat.reduceEqDiff, Ev_drawn, EvD_cons, EvD_nil, EvDR_some, xd_move, xd_assign, xd_bin, xd_conv, xd_field, xd_index, xd_load, xd_len, xd_extract, xd_build, xd_call, xd_makeSlice, xd_buildSlice, xd_append, xd_store, execAt, opIds, AOp.opds, slotsAt, List.sum_cons, List.sum_nil, List.take_succ_cons, List.take_zero, List.take_nil, List.range'_succ, List.range'_zero, Nat.add_zero, maskD, within, withinL, mapD, mapL, subRows, getRow, writeBack, addId, List.contains_cons, List.contains_nil, Nat.reduceBEq, List.idxOf_cons, List.idxOf_nil, cond_true, cond_false, List.append_nil, List.replicate_succ, List.replicate_zero, List.set_cons_zero, List.set_cons_succ, callV, takeArgs, takeV, lendArgs, lendV, lendVs, List.headD_cons, List.headD_nil, List.tail_cons, List.tail_nil, List.contains_cons, List.contains_nil, m_al, m_sl, m_ol, m_ll, m_la, m_ls, m_lo, Bool.or_false, Bool.or_true, Bool.false_or, Bool.true_or, idsL, ids, madeV, shareV, shareVs, adoptV, adoptVs, ownOnly, ownOnlyL, Bool.true_and, Bool.and_true, Bool.and_false, Bool.false_and, List.isEmpty_nil, List.isEmpty_cons, giveV, giveVs, Bool.not_false, Bool.not_true, reduceCtorEq, Bool.false_eq_true, if_false, if_true, comps, zeros, fill, layAt, List.zip_cons_cons, List.zip_nil_left, List.zip_nil_right, List.all_cons, List.all_nil, storable, List.append_nil, List.cons_append, List.nil_append, true_and, and_self, Nat.le_refl, Bool.and_self, giveVs, giveV, adoptV, madeV, Option.map_some, List.map_cons, List.map_nil, loadV_addr, Nat.add_zero, storeV, setCells, layAt, cellsAt, borrow, borrowL, cut, theRow, comps, giveVs, giveV, List.getElem?_cons_zero, List.getElem?_cons_succ, List.drop_zero, List.take_succ_cons, List.take_zero, List.take_nil, List.all_cons, List.all_nil, storable, scalarD, Bool.and_self, Bool.false_eq_true, if_false, if_true, and_true, true_and, and_self, Nat.le_refl, false_implies, forall_const, forall_false, imp_false, not_false_eq_true, adoptVs, adoptV, appendV, appendSrc, giveV, giveVs, theRow, cellsAt, List.getElem?_cons_zero, List.getElem?_cons_succ, List.drop_zero, List.take_succ_cons, List.take_zero, List.take_nil, Nat.zero_sub, Nat.sub_zero, Bool.false_eq_true, if_false, if_true, and_true, true_and, and_self, Nat.le_refl, List.length_cons, List.length_nil, List.cons_append, List.nil_append, List.append_nil, shareL_blks, shareL_di, shareL_zf, ta, ld, hrem, di_length, hwl, hroom]
    refine ⟨rfl, ?_⟩
    simp -implicitDefEqProofs (disch := first | omega | (apply calm_by; decide)) only [List.cons_append, List.nil_append, Ev_seq, Ev_region, Ev_skip, Ev_exit, Ev_ret, Ev_block, Ev_cond, Ev_ghost, Ev_draw_calm, GoOn_cmp, GoOn_nil, GoOn_thn, GoOn_thn_e, GoOn_thn_r, GoOn_blk, GoOn_blk_e, GoOn_blk_r, onN_n, onN_e, onN_r, Round_n, Round_e, Round_r, EvC_t, EvC_f, EvW_t, EvW_f, EvR_some, EvN_some, EvO_cons, EvO_nil, wanted, exec, put, passed, opd,
    List.length_cons, List.length_nil, Nat.zero_add, Nat.reduceAdd, List.replicate_succ, List.replicate_zero, List.set_cons_zero, List.set_cons_succ, List.getD_cons_zero, List.getD_cons_succ, Option.map_some, Option.map_none, List.map_cons, List.map_nil,
    bin_add, bin_sub, bin_mul, bin_eql, bin_neq, bin_lss, bin_leq, bin_gtr, bin_geq, bin_quo_nat, bin_rem_nat, bin_or_hi, bin_shr32, bin_shl32, lenV_slice, lenV_ref, ne_eq, not_false_eq_true, beq_true, beq_false, Bool.not_true, Bool.not_false, wrap_i64, wrap_u64, dec_t, dec_f, ite_t, ite_f, ibeq_t, ibeq_f, ibne_t, ibne_f, index_slice, index_ref, slice_slice_hi, slice_ref_hi, Int.natCast_add, Int.cast_ofNat_Int, Int.add_sub_cancel, Int.toNat_natCast, Int.toNat_natCast_add_one, Int.reduceToNat, Nat.mul_one, load_dg, shareL_dg, adoptV, if_true, if_false, ite_true, ite_false, Bool.true_eq, Bool.false_eq_true, beq_self_eq_true, reduceCtorEq, reduceIte, Nat.reduceMul, Nat.reduceSub, Nat.reduceLT, Nat.reduceLeDiff, Nat.reduceEqDiff, norm, keepLive, compact, List.range_zero, List.range_succ, List.nil_append, List.cons_append, List.append_nil, List.contains_cons, List.contains_nil, Bool.or_false, Bool.or_true, Bool.false_or, Bool.true_or, Nat.reduceBEq, beq_self_eq_true, idsL, ids, addId, List.filter_cons, List.filter_nil, decide_true, decide_false, List.map_cons, List.map_nil, maskD, within, withinL, mapD, mapL, subRows, getRow, List.idxOf_cons, List.idxOf_nil, cond_true, cond_false, Bool.and_true, Bool.true_and, if_true, if_false, Bool.false_eq_true, List.length_cons, List.length_nil, Nat.zero_add, Nat.reduceAdd, Nat.reduceLT, List.getD_cons_zero, List.getD_cons_succ, List.set_cons_zero, List.set_cons_succ, reduceIte, reduceCtorEq]
    exact ⟨m, by omega, i + 1, by omega, by rw [hws, di_append]; rfl⟩
end
end Av
namespace Av
open Go
set_option linter.unusedSimpArgs false
set_option linter.unusedVariables false
/-- Blocks that are the frame's own. -/
def zfO (k : Nat) : List D := zeros [.bool false, .slice true 1 0 [], .slice true 1 0 []] k
def blkO (k : Nat) : D := .slice true 3 k (zfO k)
def blksO (ks : List Nat) : List D := ks.map blkO
theorem shareL_zfO : ∀ k, shareL (zfO k) = zf k
  | 0 => rfl
  | k + 1 => by
    have := shareL_zfO k
    simp only [zfO, zf] at this
    simp only [zfO, zf, zeros, shareL_append, this]
    rfl
theorem shareL_blksO : ∀ ks, shareL (blksO ks) = blks ks
  | [] => rfl
  | k :: ks => by
    have := shareL_blksO ks
    simp only [blks, blksO] at this
    simp only [blks, blksO, List.map_cons, shareL, this, blk, blkO, shareD, shareL_zfO]
theorem blksO_length (ks : List Nat) : (blksO ks).length = ks.length := by simp [blksO]
theorem take_blks (ks : List Nat) (n : Nat) (h : ks.length = n) : (blks ks).take n = blks ks := by rw [List.take_of_length_le]; rw [blks_length]; omega
theorem take_blksO (ks : List Nat) (n : Nat) (h : ks.length = n) : (blksO ks).take n = blksO ks := by rw [List.take_of_length_le]; rw [blksO_length]; omega
theorem zfO_length (k : Nat) : (zfO k).length = k * 3 := zeros_length _ k
theorem take_zfO (k : Nat) : (zfO k).take (k * 3) = zfO k := by rw [List.take_of_length_le]; rw [zfO_length]; omega
theorem ownOnlyL_di : ∀ a : List Int, ownOnlyL (di a) = true
  | [] => rfl
  | x :: a => by
    have := ownOnlyL_di a
    simp only [di] at this
    simp only [di, List.map_cons, ownOnlyL, ownOnly, this, Bool.and_self]
/-- The sizes of the law's blocks. -/
def kss (raw : List Int) (n : Nat) : List Nat := (List.range n).map fun i => atN raw i % 5
theorem kss_length (raw : List Int) (n : Nat) : (kss raw n).length = n := by simp [kss]
theorem kss_succ (raw : List Int) (n : Nat) : kss raw (n + 1) = kss raw n ++ [atN raw n % 5] := by simp [kss, List.range_succ]
theorem kss_small (raw : List Int) (n : Nat) : Small (kss raw n) := by
  intro k hk
  obtain ⟨i, _, rfl⟩ := List.mem_map.1 hk
  have := Nat.mod_lt (atN raw i) (show 0 < 5 by omega)
  omega
theorem blksO_append (a b : List Nat) : blksO (a ++ b) = blksO a ++ blksO b := by simp [blksO]
section
variable {T : Nat → Option Fun}
set_option maxHeartbeats 2000000 in
theorem numbers_ok (h : Has1 T) (W : WF T) (raw : List Int) (b : Nat) (x : List Nat) (hr : raw.length < 2 ^ 63) (hb : b < 256) (dx : Dig x) (hx : x.length < 2 ^ 63) :
    callW T 0 [.slice false 1 raw.length (di raw), .int .u8 b, .slice false 1 x.length (dg x)] [] = some (.bool true, []) := by
  refine callW_ev (h 0 (.code F.f0) rfl) rfl ?_
  simp only [F.f0, adoptVs, adoptV, List.cons_append, List.nil_append]
  by_cases hx3 : 3 < x.length
  · simp -implicitDefEqProofs (disch := first | omega | (apply calm_by; decide)) only [List.cons_append, List.nil_append, Ev_seq, Ev_region, Ev_skip, Ev_exit, Ev_ret, Ev_block, Ev_cond, Ev_ghost, Ev_draw_calm, GoOn_cmp, GoOn_nil, GoOn_thn, GoOn_thn_e, GoOn_thn_r, GoOn_blk, GoOn_blk_e, GoOn_blk_r, onN_n, onN_e, onN_r, Round_n, Round_e, Round_r, EvC_t, EvC_f, EvW_t, EvW_f, EvR_some, EvN_some, EvO_cons, EvO_nil, wanted, exec, put, passed, opd,
    List.length_cons, List.length_nil, Nat.zero_add, Nat.reduceAdd, List.replicate_succ, List.replicate_zero, List.set_cons_zero, List.set_cons_succ, List.getD_cons_zero, List.getD_cons_succ, Option.map_some, Option.map_none, List.map_cons, List.map_nil,
    bin_add, bin_sub, bin_mul, bin_eql, bin_neq, bin_lss, bin_leq, bin_gtr, bin_geq, bin_quo_nat, bin_rem_nat, bin_or_hi, bin_shr32, bin_shl32, lenV_slice, lenV_ref, ne_eq, not_false_eq_true, beq_true, beq_false, Bool.not_true, Bool.not_false, wrap_i64, wrap_u64, dec_t, dec_f, ite_t, ite_f, ibeq_t, ibeq_f, ibne_t, ibne_f, index_slice, index_ref, slice_slice_hi, slice_ref_hi, Int.natCast_add, Int.cast_ofNat_Int, Int.add_sub_cancel, Int.toNat_natCast, Int.toNat_natCast_add_one, Int.reduceToNat, Nat.mul_one, load_dg, shareL_dg, adoptV, if_true, if_false, ite_true, ite_false, Bool.true_eq, Bool.false_eq_true, beq_self_eq_true, reduceCtorEq, reduceIte, Nat.reduceMul, Nat.reduceSub, Nat.reduceLT, Nat.reduceLeDiff, Nat.reduceEqDiff, callV, takeArgs, takeV, lendArgs, lendV, lendVs, List.headD_cons, List.headD_nil, List.tail_cons, List.tail_nil, List.contains_cons, List.contains_nil, m_al, m_sl, m_ol, m_ll, m_la, m_ls, m_lo, Bool.or_false, Bool.or_true, Bool.false_or, Bool.true_or, idsL, ids, madeV, shareV, shareVs, adoptV, adoptVs, ownOnly, ownOnlyL, Bool.true_and, Bool.and_true, Bool.and_false, Bool.false_and, List.isEmpty_nil, List.isEmpty_cons, giveV, giveVs, Bool.not_false, Bool.not_true, reduceCtorEq, Bool.false_eq_true, if_false, if_true, dg_length, take_dg, List.take_length, ends_n, ends_r, results, resVs, resV, giveV, giveVs, shareV, theRow, List.getElem?_cons_zero, List.getElem?_cons_succ, Option.map_some, List.take_zero, List.take_nil, List.take_succ_cons]
  simp -implicitDefEqProofs (disch := first | omega | (apply calm_by; decide)) only [List.cons_append, List.nil_append, Ev_seq, Ev_region, Ev_skip, Ev_exit, Ev_ret, Ev_block, Ev_cond, Ev_ghost, Ev_draw_calm, GoOn_cmp, GoOn_nil, GoOn_thn, GoOn_thn_e, GoOn_thn_r, GoOn_blk, GoOn_blk_e, GoOn_blk_r, onN_n, onN_e, onN_r, Round_n, Round_e, Round_r, EvC_t, EvC_f, EvW_t, EvW_f, EvR_some, EvN_some, EvO_cons, EvO_nil, wanted, exec, put, passed, opd,
    List.length_cons, List.length_nil, Nat.zero_add, Nat.reduceAdd, List.replicate_succ, List.replicate_zero, List.set_cons_zero, List.set_cons_succ, List.getD_cons_zero, List.getD_cons_succ, Option.map_some, Option.map_none, List.map_cons, List.map_nil,
    bin_add, bin_sub, bin_mul, bin_eql, bin_neq, bin_lss, bin_leq, bin_gtr, bin_geq, bin_quo_nat, bin_rem_nat, bin_or_hi, bin_shr32, bin_shl32, lenV_slice, lenV_ref, ne_eq, not_false_eq_true, beq_true, beq_false, Bool.not_true, Bool.not_false, wrap_i64, wrap_u64, dec_t, dec_f, ite_t, ite_f, ibeq_t, ibeq_f, ibne_t, ibne_f, index_slice, index_ref, slice_slice_hi, slice_ref_hi, Int.natCast_add, Int.cast_ofNat_Int, Int.add_sub_cancel, Int.toNat_natCast, Int.toNat_natCast_add_one, Int.reduceToNat, Nat.mul_one, load_dg, shareL_dg, adoptV, if_true, if_false, ite_true, ite_false, Bool.true_eq, Bool.false_eq_true, beq_self_eq_true, reduceCtorEq, reduceIte, Nat.reduceMul, Nat.reduceSub, Nat.reduceLT, Nat.reduceLeDiff, Nat.reduceEqDiff, callV, takeArgs, takeV, lendArgs, lendV, lendVs, List.headD_cons, List.headD_nil, List.tail_cons, List.tail_nil, List.contains_cons, List.contains_nil, m_al, m_sl, m_ol, m_ll, m_la, m_ls, m_lo, Bool.or_false, Bool.or_true, Bool.false_or, Bool.true_or, idsL, ids, madeV, shareV, shareVs, adoptV, adoptVs, ownOnly, ownOnlyL, Bool.true_and, Bool.and_true, Bool.and_false, Bool.false_and, List.isEmpty_nil, List.isEmpty_cons, giveV, giveVs, Bool.not_false, Bool.not_true, reduceCtorEq, Bool.false_eq_true, if_false, if_true, comps, zeros, fill, layAt, List.zip_cons_cons, List.zip_nil_left, List.zip_nil_right, List.all_cons, List.all_nil, storable, List.append_nil, List.cons_append, List.nil_append, true_and, and_self, Nat.le_refl, Bool.and_self, giveVs, giveV, adoptV, madeV, Option.map_some, List.map_cons, List.map_nil, loadV_addr, Nat.add_zero, storeV, setCells, layAt, cellsAt, borrow, borrowL, cut, theRow, comps, giveVs, giveV, List.getElem?_cons_zero, List.getElem?_cons_succ, List.drop_zero, List.take_succ_cons, List.take_zero, List.take_nil, List.all_cons, List.all_nil, storable, scalarD, Bool.and_self, Bool.false_eq_true, if_false, if_true, and_true, true_and, and_self, Nat.le_refl, false_implies, forall_const, forall_false, imp_false, not_false_eq_true, adoptVs, adoptV, isU]
  refine Ev_loop (fun m st => ∃ i v : Nat, i + m = b % 64 ∧ st = ⟨[.slice false 1 raw.length (di raw), .int .u8 b, .slice false 1 x.length (dg x), .undef, .addr 0 [] 0 0, .int .u8 i, .undef, .undef, .undef, .undef, .undef, .undef, .undef, .undef, .undef, .undef, .undef, .undef, .undef], [], [some ⟨[.slice true 1 i (blksO (kss raw i))], false, 0, v⟩], 0⟩) (b % 64)
    ⟨0, 1, by omega, ?_⟩ ?_
  · simp only [norm, keepLive, compact, List.range_zero, List.range_succ, List.nil_append, List.cons_append, List.append_nil, List.contains_cons, List.contains_nil, Bool.or_false, Bool.or_true, Bool.false_or, Bool.true_or, Nat.reduceBEq, beq_self_eq_true, idsL, ids, addId, List.filter_cons, List.filter_nil, decide_true, decide_false, List.map_cons, List.map_nil, maskD, within, withinL, mapD, mapL, subRows, getRow, List.idxOf_cons, List.idxOf_nil, cond_true, cond_false, Bool.and_true, Bool.true_and, if_true, if_false, Bool.false_eq_true, List.length_cons, List.length_nil, Nat.zero_add, Nat.reduceAdd, Nat.reduceLT, List.getD_cons_zero, List.getD_cons_succ, List.set_cons_zero, List.set_cons_succ, reduceIte, reduceCtorEq]; rfl
  rintro m st ⟨i, v, hi, rfl⟩
  cases m with
  | zero =>
    have hs := kss_small raw i
    have hkl := kss_length raw i
    generalize kss raw i = K at *
    have hl : K.length ≤ 63 := by omega
    have hb64 : b % 64 = K.length := by omega
    subst hkl
    have hcp := cnt_pos K
    have hcl := cnt_lt hs hl
    have lC : (digs (cnt K)).length ≤ 5 := digs_length_le hcl
    have tc := count_ok h W K hs hl
    have tn := nat_ok h x dx (by omega)
    have lX : (x.map natF).length ≤ 3 := by rw [List.length_map]; omega
    have td := divMod_ok h (x.map natF) (digs (cnt K)) (dig_natF dx) (dig_digs _) (by omega) (by omega) (by rw [val_digs]; omega)
    rw [val_digs] at td
    have hn := Nat.mod_lt (val (x.map natF)) hcp
    generalize val (x.map natF) % cnt K = n at *
    generalize digs (val (x.map natF) / cnt K) = Q at *
    generalize x.map natF = X at *
    have lN : (digs n).length ≤ 5 := digs_length_le (Nat.lt_trans hn hcl)
    have tw := atW_ok h W K (digs n) hs hl (dig_digs _) (by omega) (by rw [val_digs]; exact hn)
    rw [val_digs] at tw
    have ti := index_ok h W K (wAt K n) hs hl (wAt_in K n)
    rw [num_wAt, Nat.mod_eq_of_lt hn, wAt_length] at ti
    have tadd := add_ok h (digs (cnt K)) (digs n) (dig_digs _) (dig_digs _) (by omega) (by omega)
    rw [val_digs, val_digs] at tadd
    have lS : (digs (cnt K + n)).length ≤ 6 := digs_length_le (by omega)
    have tno := atW_no h W K (digs (cnt K + n)) hs hl (dig_digs _) (by omega) (by rw [val_digs]; omega)
    have tv := world_ok h K raw hs hl hr
    have hvin := wld_in raw K
    have ti2 := index_ok h W K (wld raw K K.length) hs hl hvin
    rw [wld_length] at ti2
    have hm := num_lt hvin
    have hback := wAt_num hvin
    have tsw := sameWorld_ok h (wld raw K K.length) (by rw [wld_length]; omega)
    rw [wld_length] at tsw
    generalize num K (wld raw K K.length) = m at *
    have lM : (digs m).length ≤ 5 := digs_length_le (Nat.lt_trans hm hcl)
    have tu := atW_ok h W K (digs m) hs hl (dig_digs _) (by omega) (by rw [val_digs]; exact hm)
    rw [val_digs, hback] at tu
    have tns := natSame_ok h (digs n) (by omega)
    have tcm := cmp_ok h (digs m) (digs (cnt K)) (dig_digs _) (dig_digs _) (by omega) (by omega)
    rw [val_digs, val_digs] at tcm
    have ec : cmpI m (cnt K) = -1 := by simp [cmpI, hm]
    rw [ec] at tcm
    have tk := W.known
    generalize wld raw K K.length = V at *
    generalize wAt K n = Y at *
    generalize digs (cnt K + n) = S at *
    generalize digs (cnt K) = C at *
    generalize digs n = N at *
    generalize digs m = M at *
    have htk := take_blks K K.length rfl
    simp only [sp, natO] at tc td tw ti tadd tno tv ti2 tu tn
    simp -implicitDefEqProofs (disch := first | omega | (apply calm_by; decide)) only [List.cons_append, List.nil_append, Ev_seq, Ev_region, Ev_skip, Ev_exit, Ev_ret, Ev_block, Ev_cond, Ev_ghost, Ev_draw_calm, GoOn_cmp, GoOn_nil, GoOn_thn, GoOn_thn_e, GoOn_thn_r, GoOn_blk, GoOn_blk_e, GoOn_blk_r, onN_n, onN_e, onN_r, Round_n, Round_e, Round_r, EvC_t, EvC_f, EvW_t, EvW_f, EvR_some, EvN_some, EvO_cons, EvO_nil, wanted, exec, put, passed, opd,
    List.length_cons, List.length_nil, Nat.zero_add, Nat.reduceAdd, List.replicate_succ, List.replicate_zero, List.set_cons_zero, List.set_cons_succ, List.getD_cons_zero, List.getD_cons_succ, Option.map_some, Option.map_none, List.map_cons, List.map_nil,
    bin_add, bin_sub, bin_mul, bin_eql, bin_neq, bin_lss, bin_leq, bin_gtr, bin_geq, bin_quo_nat, bin_rem_nat, bin_or_hi, bin_shr32, bin_shl32, lenV_slice, lenV_ref, ne_eq, not_false_eq_true, beq_true, beq_false, Bool.not_true, Bool.not_false, wrap_i64, wrap_u64, dec_t, dec_f, ite_t, ite_f, ibeq_t, ibeq_f, ibne_t, ibne_f, index_slice, index_ref, slice_slice_hi, slice_ref_hi, Int.natCast_add, Int.cast_ofNat_Int, Int.add_sub_cancel, Int.toNat_natCast, Int.toNat_natCast_add_one, Int.reduceToNat, Nat.mul_one, load_dg, shareL_dg, adoptV, if_true, if_false, ite_true, ite_false, Bool.true_eq, Bool.false_eq_true, beq_self_eq_true, reduceCtorEq, reduceIte, Nat.reduceMul, Nat.reduceSub, Nat.reduceLT, Nat.reduceLeDiff, Nat.reduceEqDiff, Ev_drawn, EvD_cons, EvD_nil, EvDR_some, xd_move, xd_assign, xd_bin, xd_conv, xd_field, xd_index, xd_load, xd_len, xd_extract, xd_build, xd_call, xd_makeSlice, xd_buildSlice, xd_append, xd_store, execAt, opIds, AOp.opds, slotsAt, List.sum_cons, List.sum_nil, List.take_succ_cons, List.take_zero, List.take_nil, List.range'_succ, List.range'_zero, Nat.add_zero, maskD, within, withinL, mapD, mapL, subRows, getRow, writeBack, addId, List.contains_cons, List.contains_nil, Nat.reduceBEq, List.idxOf_cons, List.idxOf_nil, cond_true, cond_false, List.append_nil, List.replicate_succ, List.replicate_zero, List.set_cons_zero, List.set_cons_succ, callV, takeArgs, takeV, lendArgs, lendV, lendVs, List.headD_cons, List.headD_nil, List.tail_cons, List.tail_nil, List.contains_cons, List.contains_nil, m_al, m_sl, m_ol, m_ll, m_la, m_ls, m_lo, Bool.or_false, Bool.or_true, Bool.false_or, Bool.true_or, idsL, ids, madeV, shareV, shareVs, adoptV, adoptVs, ownOnly, ownOnlyL, Bool.true_and, Bool.and_true, Bool.and_false, Bool.false_and, List.isEmpty_nil, List.isEmpty_cons, giveV, giveVs, Bool.not_false, Bool.not_true, reduceCtorEq, Bool.false_eq_true, if_false, if_true, comps, zeros, fill, layAt, List.zip_cons_cons, List.zip_nil_left, List.zip_nil_right, List.all_cons, List.all_nil, storable, List.append_nil, List.cons_append, List.nil_append, true_and, and_self, Nat.le_refl, Bool.and_self, giveVs, giveV, adoptV, madeV, Option.map_some, List.map_cons, List.map_nil, loadV_addr, Nat.add_zero, storeV, setCells, layAt, cellsAt, borrow, borrowL, cut, theRow, comps, giveVs, giveV, List.getElem?_cons_zero, List.getElem?_cons_succ, List.drop_zero, List.take_succ_cons, List.take_zero, List.take_nil, List.all_cons, List.all_nil, storable, scalarD, Bool.and_self, Bool.false_eq_true, if_false, if_true, and_true, true_and, and_self, Nat.le_refl, false_implies, forall_const, forall_false, imp_false, not_false_eq_true, adoptVs, adoptV, isU, nav, un, bin_and_u8, hb64, shareL_di, shareL_dg, shareL_blksO, blksO_length, blks_length, htk, ownOnlyL_dg, ownOnlyL_di, lendVs, lend_slice0, shareV, shareVs, tc, tn, td, tw, ti, tadd, tno, tv, ti2, tu, tns, tsw, tcm, tk]
    refine ⟨rfl, ?_⟩
    simp only [norm, keepLive, compact, List.range_zero, List.range_succ, List.nil_append, List.cons_append, List.append_nil, List.contains_cons, List.contains_nil, Bool.or_false, Bool.or_true, Bool.false_or, Bool.true_or, Nat.reduceBEq, beq_self_eq_true, idsL, ids, addId, List.filter_cons, List.filter_nil, decide_true, decide_false, List.map_cons, List.map_nil, maskD, within, withinL, mapD, mapL, subRows, getRow, List.idxOf_cons, List.idxOf_nil, cond_true, cond_false, Bool.and_true, Bool.true_and, if_true, if_false, Bool.false_eq_true, List.length_cons, List.length_nil, Nat.zero_add, Nat.reduceAdd, Nat.reduceLT, List.getD_cons_zero, List.getD_cons_succ, List.set_cons_zero, List.set_cons_succ, reduceIte, reduceCtorEq]
    simp -implicitDefEqProofs (maxSteps := 4000000) (disch := first | omega | (apply calm_by; decide)) only [List.cons_append, List.nil_append, Ev_seq, Ev_region, Ev_skip, Ev_exit, Ev_ret, Ev_block, Ev_cond, Ev_ghost, Ev_draw_calm, GoOn_cmp, GoOn_nil, GoOn_thn, GoOn_thn_e, GoOn_thn_r, GoOn_blk, GoOn_blk_e, GoOn_blk_r, onN_n, onN_e, onN_r, Round_n, Round_e, Round_r, EvC_t, EvC_f, EvW_t, EvW_f, EvR_some, EvN_some, EvO_cons, EvO_nil, wanted, exec, put, passed, opd,
    List.length_cons, List.length_nil, Nat.zero_add, Nat.reduceAdd, List.replicate_succ, List.replicate_zero, List.set_cons_zero, List.set_cons_succ, List.getD_cons_zero, List.getD_cons_succ, Option.map_some, Option.map_none, List.map_cons, List.map_nil,
    bin_add, bin_sub, bin_mul, bin_eql, bin_neq, bin_lss, bin_leq, bin_gtr, bin_geq, bin_quo_nat, bin_rem_nat, bin_or_hi, bin_shr32, bin_shl32, lenV_slice, lenV_ref, ne_eq, not_false_eq_true, beq_true, beq_false, Bool.not_true, Bool.not_false, wrap_i64, wrap_u64, dec_t, dec_f, ite_t, ite_f, ibeq_t, ibeq_f, ibne_t, ibne_f, index_slice, index_ref, slice_slice_hi, slice_ref_hi, Int.natCast_add, Int.cast_ofNat_Int, Int.add_sub_cancel, Int.toNat_natCast, Int.toNat_natCast_add_one, Int.reduceToNat, Nat.mul_one, load_dg, shareL_dg, adoptV, if_true, if_false, ite_true, ite_false, Bool.true_eq, Bool.false_eq_true, beq_self_eq_true, reduceCtorEq, reduceIte, Nat.reduceMul, Nat.reduceSub, Nat.reduceLT, Nat.reduceLeDiff, Nat.reduceEqDiff, callV, takeArgs, takeV, lendArgs, lendV, lendVs, List.headD_cons, List.headD_nil, List.tail_cons, List.tail_nil, List.contains_cons, List.contains_nil, m_al, m_sl, m_ol, m_ll, m_la, m_ls, m_lo, Bool.or_false, Bool.or_true, Bool.false_or, Bool.true_or, idsL, ids, madeV, shareV, shareVs, adoptV, adoptVs, ownOnly, ownOnlyL, Bool.true_and, Bool.and_true, Bool.and_false, Bool.false_and, List.isEmpty_nil, List.isEmpty_cons, giveV, giveVs, Bool.not_false, Bool.not_true, reduceCtorEq, Bool.false_eq_true, if_false, if_true, comps, zeros, fill, layAt, List.zip_cons_cons, List.zip_nil_left, List.zip_nil_right, List.all_cons, List.all_nil, storable, List.append_nil, List.cons_append, List.nil_append, true_and, and_self, Nat.le_refl, Bool.and_self, giveVs, giveV, adoptV, madeV, Option.map_some, List.map_cons, List.map_nil, loadV_addr, Nat.add_zero, storeV, setCells, layAt, cellsAt, borrow, borrowL, cut, theRow, comps, giveVs, giveV, List.getElem?_cons_zero, List.getElem?_cons_succ, List.drop_zero, List.take_succ_cons, List.take_zero, List.take_nil, List.all_cons, List.all_nil, storable, scalarD, Bool.and_self, Bool.false_eq_true, if_false, if_true, and_true, true_and, and_self, Nat.le_refl, false_implies, forall_const, forall_false, imp_false, not_false_eq_true, adoptVs, adoptV, dg_length, take_dg, List.take_length, ends_n, ends_r, results, resVs, resV, giveV, giveVs, shareV, theRow, List.getElem?_cons_zero, List.getElem?_cons_succ, Option.map_some, List.take_zero, List.take_nil, List.take_succ_cons, isU, nav, un, shareL_di, shareL_dg, shareL_blksO, blksO_length, blks_length, htk, ownOnlyL_dg, ownOnlyL_di, lendVs, lend_slice0, shareV, shareVs, tv, ti2, tu, tns, tsw, tcm, tk]
  | succ m =>
    have ta := at_ok h raw i hr (by omega)
    have hle := atN_le raw i
    have hks := kss_succ raw i
    have hkl := kss_length raw i
    have hroom : room (i + 1) 24 = true := room_t _ _ (by omega)
    have hml := Nat.mod_lt (atN raw i) (show 0 < 5 by omega)
    have hrem := bin_rem_nat .i64 (atN raw i) 5 (by omega)
    simp only [Int.natCast_add, Int.cast_ofNat_Int] at hrem
    have hB : blksO (kss raw i) ++ [.slice true 3 (atN raw i % 5) (zfO (atN raw i % 5))] = blksO (kss raw (i + 1)) := by rw [hks, blksO_append]; rfl
    have hkl2 := kss_length raw (i + 1)
    have htk := take_blksO (kss raw (i + 1)) (i + 1) hkl2
    have hlast : ∃ K', K' = kss raw (i + 1) := ⟨_, rfl⟩
    obtain ⟨K', hK'⟩ := hlast
    rw [← hK'] at hB hkl2 htk
    generalize kss raw i = K at *
    generalize atN raw i % 5 = k at *
    generalize atN raw i = y at *
    have hroom2 : room k 56 = true := room_t _ _ (by omega)
    have hz : zeros [.bool false, .slice true 1 0 [], .slice true 1 0 []] k = zfO k := rfl
    simp -implicitDefEqProofs (disch := first | omega | (apply calm_by; decide)) only [List.cons_append, List.nil_append, Ev_seq, Ev_region, Ev_skip, Ev_exit, Ev_ret, Ev_block, Ev_cond, Ev_ghost, Ev_draw_calm, GoOn_cmp, GoOn_nil, GoOn_thn, GoOn_thn_e, GoOn_thn_r, GoOn_blk, GoOn_blk_e, GoOn_blk_r, onN_n, onN_e, onN_r, Round_n, Round_e, Round_r, EvC_t, EvC_f, EvW_t, EvW_f, EvR_some, EvN_some, EvO_cons, EvO_nil, wanted, exec, put, passed, opd,
    List.length_cons, List.length_nil, Nat.zero_add, Nat.reduceAdd, List.replicate_succ, List.replicate_zero, List.set_cons_zero, List.set_cons_succ, List.getD_cons_zero, List.getD_cons_succ, Option.map_some, Option.map_none, List.map_cons, List.map_nil,
    bin_add, bin_sub, bin_mul, bin_eql, bin_neq, bin_lss, bin_leq, bin_gtr, bin_geq, bin_quo_nat, bin_rem_nat, bin_or_hi, bin_shr32, bin_shl32, lenV_slice, lenV_ref, ne_eq, not_false_eq_true, beq_true, beq_false, Bool.not_true, Bool.not_false, wrap_i64, wrap_u64, dec_t, dec_f, ite_t, ite_f, ibeq_t, ibeq_f, ibne_t, ibne_f, index_slice, index_ref, slice_slice_hi, slice_ref_hi, Int.natCast_add, Int.cast_ofNat_Int, Int.add_sub_cancel, Int.toNat_natCast, Int.toNat_natCast_add_one, Int.reduceToNat, Nat.mul_one, load_dg, shareL_dg, adoptV, if_true, if_false, ite_true, ite_false, Bool.true_eq, Bool.false_eq_true, beq_self_eq_true, reduceCtorEq, reduceIte, Nat.reduceMul, Nat.reduceSub, Nat.reduceLT, Nat.reduceLeDiff, Nat.reduceEqDiff, Ev_drawn, EvD_cons, EvD_nil, EvDR_some, xd_move, xd_assign, xd_bin, xd_conv, xd_field, xd_index, xd_load, xd_len, xd_extract, xd_build, xd_call, xd_makeSlice, xd_buildSlice, xd_append, xd_store, execAt, opIds, AOp.opds, slotsAt, List.sum_cons, List.sum_nil, List.take_succ_cons, List.take_zero, List.take_nil, List.range'_succ, List.range'_zero, Nat.add_zero, maskD, within, withinL, mapD, mapL, subRows, getRow, writeBack, addId, List.contains_cons, List.contains_nil, Nat.reduceBEq, List.idxOf_cons, List.idxOf_nil, cond_true, cond_false, List.append_nil, List.replicate_succ, List.replicate_zero, List.set_cons_zero, List.set_cons_succ, callV, takeArgs, takeV, lendArgs, lendV, lendVs, List.headD_cons, List.headD_nil, List.tail_cons, List.tail_nil, List.contains_cons, List.contains_nil, m_al, m_sl, m_ol, m_ll, m_la, m_ls, m_lo, Bool.or_false, Bool.or_true, Bool.false_or, Bool.true_or, idsL, ids, madeV, shareV, shareVs, adoptV, adoptVs, ownOnly, ownOnlyL, Bool.true_and, Bool.and_true, Bool.and_false, Bool.false_and, List.isEmpty_nil, List.isEmpty_cons, giveV, giveVs, Bool.not_false, Bool.not_true, reduceCtorEq, Bool.false_eq_true, if_false, if_true, comps, zeros, fill, layAt, List.zip_cons_cons, List.zip_nil_left, List.zip_nil_right, List.all_cons, List.all_nil, storable, List.append_nil, List.cons_append, List.nil_append, true_and, and_self, Nat.le_refl, Bool.and_self, giveVs, giveV, adoptV, madeV, Option.map_some, List.map_cons, List.map_nil, loadV_addr, Nat.add_zero, storeV, setCells, layAt, cellsAt, borrow, borrowL, cut, theRow, comps, giveVs, giveV, List.getElem?_cons_zero, List.getElem?_cons_succ, List.drop_zero, List.take_succ_cons, List.take_zero, List.take_nil, List.all_cons, List.all_nil, storable, scalarD, Bool.and_self, Bool.false_eq_true, if_false, if_true, and_true, true_and, and_self, Nat.le_refl, false_implies, forall_const, forall_false, imp_false, not_false_eq_true, adoptVs, adoptV, appendV, appendSrc, giveV, giveVs, theRow, cellsAt, List.getElem?_cons_zero, List.getElem?_cons_succ, List.drop_zero, List.take_succ_cons, List.take_zero, List.take_nil, Nat.zero_sub, Nat.sub_zero, Bool.false_eq_true, if_false, if_true, and_true, true_and, and_self, Nat.le_refl, List.length_cons, List.length_nil, List.cons_append, List.nil_append, List.append_nil, isU, nav, putNav, setNav, bin_and_u8, shareL_di, ta, hrem, hz, zfO_length, take_zfO, blksO_length, hkl, hB, hkl2, htk, hroom, hroom2]
    refine ⟨rfl, ?_⟩
    simp only [norm, keepLive, compact, List.range_zero, List.range_succ, List.nil_append, List.cons_append, List.append_nil, List.contains_cons, List.contains_nil, Bool.or_false, Bool.or_true, Bool.false_or, Bool.true_or, Nat.reduceBEq, beq_self_eq_true, idsL, ids, addId, List.filter_cons, List.filter_nil, decide_true, decide_false, List.map_cons, List.map_nil, maskD, within, withinL, mapD, mapL, subRows, getRow, List.idxOf_cons, List.idxOf_nil, cond_true, cond_false, Bool.and_true, Bool.true_and, if_true, if_false, Bool.false_eq_true, List.length_cons, List.length_nil, Nat.zero_add, Nat.reduceAdd, Nat.reduceLT, List.getD_cons_zero, List.getD_cons_succ, List.set_cons_zero, List.set_cons_succ, reduceIte, reduceCtorEq]
    simp -implicitDefEqProofs (maxSteps := 4000000) (disch := first | omega | (apply calm_by; decide)) only [List.cons_append, List.nil_append, Ev_seq, Ev_region, Ev_skip, Ev_exit, Ev_ret, Ev_block, Ev_cond, Ev_ghost, Ev_draw_calm, GoOn_cmp, GoOn_nil, GoOn_thn, GoOn_thn_e, GoOn_thn_r, GoOn_blk, GoOn_blk_e, GoOn_blk_r, onN_n, onN_e, onN_r, Round_n, Round_e, Round_r, EvC_t, EvC_f, EvW_t, EvW_f, EvR_some, EvN_some, EvO_cons, EvO_nil, wanted, exec, put, passed, opd,
    List.length_cons, List.length_nil, Nat.zero_add, Nat.reduceAdd, List.replicate_succ, List.replicate_zero, List.set_cons_zero, List.set_cons_succ, List.getD_cons_zero, List.getD_cons_succ, Option.map_some, Option.map_none, List.map_cons, List.map_nil,
    bin_add, bin_sub, bin_mul, bin_eql, bin_neq, bin_lss, bin_leq, bin_gtr, bin_geq, bin_quo_nat, bin_rem_nat, bin_or_hi, bin_shr32, bin_shl32, lenV_slice, lenV_ref, ne_eq, not_false_eq_true, beq_true, beq_false, Bool.not_true, Bool.not_false, wrap_i64, wrap_u64, dec_t, dec_f, ite_t, ite_f, ibeq_t, ibeq_f, ibne_t, ibne_f, index_slice, index_ref, slice_slice_hi, slice_ref_hi, Int.natCast_add, Int.cast_ofNat_Int, Int.add_sub_cancel, Int.toNat_natCast, Int.toNat_natCast_add_one, Int.reduceToNat, Nat.mul_one, load_dg, shareL_dg, adoptV, if_true, if_false, ite_true, ite_false, Bool.true_eq, Bool.false_eq_true, beq_self_eq_true, reduceCtorEq, reduceIte, Nat.reduceMul, Nat.reduceSub, Nat.reduceLT, Nat.reduceLeDiff, Nat.reduceEqDiff, norm, keepLive, compact, List.range_zero, List.range_succ, List.nil_append, List.cons_append, List.append_nil, List.contains_cons, List.contains_nil, Bool.or_false, Bool.or_true, Bool.false_or, Bool.true_or, Nat.reduceBEq, beq_self_eq_true, idsL, ids, addId, List.filter_cons, List.filter_nil, decide_true, decide_false, List.map_cons, List.map_nil, maskD, within, withinL, mapD, mapL, subRows, getRow, List.idxOf_cons, List.idxOf_nil, cond_true, cond_false, Bool.and_true, Bool.true_and, if_true, if_false, Bool.false_eq_true, List.length_cons, List.length_nil, Nat.zero_add, Nat.reduceAdd, Nat.reduceLT, List.getD_cons_zero, List.getD_cons_succ, List.set_cons_zero, List.set_cons_succ, reduceIte, reduceCtorEq, wrap_u8]
    exact ⟨m, by omega, i + 1, _, by omega, by rw [← hK']; rfl⟩
end
end Av

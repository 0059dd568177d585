/- A part of the proof: WorldsVisits: for every input the law returns true and the argument reads behind the call as it read before. Conditions: none. -/
import Derived.Test.YtndbkcpofkdbiaaWv5
import Derived.Test.YtndbkcpofkdbiaaWv1
import Derived.Test.YtndbkcpofkdbiaaWv2
import Derived.ProofKit
import Derived.ChangeSlices
import Derived.Test.YtndbkcpofkdbiaaWv6
set_option linter.all false
namespace Av
open Go Go.ChangeShapes Go.WideShapes Go.RowKit
section
variable {H : Type} {enc : TypeId × Value → H} {P : Program}

/-- All that lies in the memory. -/
def allOf (W : World) : FZ := fun b o => (W.cell? ⟨b, o, none⟩).isSome = true
theorem fok_all (W : World) : FOK W (allOf W) := fun _ _ h => h

theorem relL_ints (w : World) (F : FZ) (fm : Nat → Nat) (k : IntKind) : ∀ (zs : List Int), RelL w F fm L0 (zs.map fun z => .int k z) (zs.map fun z => .int k z) (fun _ => 0)
  | [] => by simp only [List.map_nil]; unfold RelL; exact ⟨rfl, Zero.of_zero⟩
  | z :: zs => by
    simp only [List.map_cons]
    unfold RelL
    exact ⟨_, _, fun _ => 0, fun _ => 0, rfl, by unfold Rel; exact ⟨rfl, Zero.of_zero⟩, relL_ints w F fm k zs, fun _ => rfl⟩

theorem rel_nil (w : World) (F : FZ) (fm : Nat → Nat) (L : Loc) : Rel w F fm L (.slice false 1 0 []) (.slice none 0 0) (fun _ => 0) := by
  unfold Rel
  exact ⟨Zero.of_zero, rfl, none, 0, rfl, Nat.le_refl _, .inl rfl⟩

theorem rel_ints (W : World) (fm : Nat → Nat) (L : Loc) {k : IntKind} {a : Addr} {len cap : Nat} {zs : List Int} (hl : len ≤ cap) (hz : zs.length = cap) (hcell : ∀ i, i < zs.length → W.cell? (a.add i) = some (.int k (zs.getD i 0))) :
    Rel W (allOf W) fm L (.slice false 1 len ((zs.take len).map fun z => .int k z)) (.slice (some a) len cap) (fun _ => 0) := by
  unfold Rel
  refine ⟨Zero.of_zero, by simp; omega, some a, cap, rfl, hl, ?_⟩
  rcases Nat.eq_zero_or_pos len with h0 | h0
  · exact .inl (by subst h0; simp)
  right
  have h1 := hcell 0 (by omega)
  obtain ⟨b, off, spot⟩ := a
  have hspot : spot = none := by simpa [Addr.add] using World.cell?_spot h1
  subst hspot
  refine ⟨⟨b, off, none⟩, (zs.take len).map fun z => .int k z, rfl, rfl, ?_, ?_, relL_ints _ _ _ _ _⟩
  · intro v hv
    obtain ⟨z, _, rfl⟩ := List.mem_map.1 hv
    rfl
  · intro j hj
    have hj2 : j < len := by simp at hj; omega
    have h := hcell j (by omega)
    rw [add_plain] at h
    have e : ((zs.take len).map fun z => Value.int k z)[j] = .int k (zs.getD j 0) := by
      simp [List.getD_eq_getElem?_getD, show j < zs.length by omega]
    rw [e]
    refine ⟨h, ?_⟩
    unfold allOf
    rw [h]; rfl

theorem ext_below {w w' : World} {F F' : FZ} {L L' : Loc} {X X' : Cnt} (h : Ext w F L X w' F' L' X') (hX : ∀ b, X b = 0) : Below w.heap.size w w' :=
  ⟨h.os, h.tape, h.output, h.size, fun b hb => h.same b hb (hX b)⟩

/-- What was read of the arguments reads behind the call as it read. -/
theorem trodAll_below (hl : laidOutB P = true) {W W' : World} (hb : Below W.heap.size W W') : ∀ {ts : List TypeId} {vs : List Value} {ds : List (DataW H)} {ps : List MemPlace},
    (∀ t ∈ ts, P.readableRec t = true ∧ t < P.types.size) → (∀ x ∈ ps, x.block < W.heap.size) → DataW.TrodAll enc P W 0 (fun _ => true) true ts vs ds ps →
    DataW.TrodAll enc P W' 0 (fun b => decide (b < W.heap.size)) true ts vs ds ps
  | [], _, _, _, _, _, h => by
    obtain ⟨rfl, rfl, rfl⟩ := trodAll_nil h
    exact trodAll_mk0
  | t :: ts, _, _, _, ht, hp, h => by
    obtain ⟨v, vs, d, ds, p, q, rfl, rfl, rfl, h1, h2⟩ := trodAll_cons h
    obtain ⟨r1, r2⟩ := ht t (by simp)
    exact ⟨p, q, Below.trod hl r1 r2 h1 hb (fun x hx => hp x (by simp [hx])), trodAll_below hl hb (fun t h => ht t (by simp [h])) (fun x hx => hp x (by simp [hx])) h2, rfl⟩

/-- A law that the machine answers with true. -/
theorem law_calls {fm : Nat → Nat} {T : Nat → Option Fun} (hm : P.follows .mixedOrders = true) (hT : TabOK P fm T) {g : Nat} {f : AFn} (hf : T g = some (.code f)) {args : List D} {vs : List Value} {W : World}
    (ha : ∀ L, RelL W (allOf W) fm L args vs (fun _ => 0)) (h : callW T g args [] = some (.bool true, [])) :
    Calls P (fm g) vs.toArray W fun e w' => e = .returned (.bool true) ∧ Below W.heap.size W w' := by
  obtain ⟨k, hk⟩ := callW_iff.1 h
  have hR : RowsRel W (allOf W) fm [] [] (fun _ => 0) := by unfold RowsRel; exact ⟨rfl, Zero.of_zero⟩
  refine (call_ok hm hT hf hk hR (Y := fun _ => 0) ?_ (fun _ => Nat.zero_le _) (fok_all W)).mono fun e w' ⟨v, he, hA⟩ => ?_
  · exact ha _
  · obtain ⟨F', ms', X', Y', _, h2, _, _, h5⟩ := hA
    unfold Rel at h2
    obtain ⟨rfl, _⟩ := h2
    exact ⟨he, ext_below h5 fun _ => rfl⟩
/-- A slice of int, nil or not. -/
theorem open_di {W : World} {base : Nat} {t e : TypeId} {k : IntKind} {v : Value} {d : DataW H} {p : List MemPlace} (fm : Nat → Nat) (ht : P.underlying t = some (.slice e)) (he : P.underlying e = some (.int k)) (hc : P.cellsOf e = 1)
    (hv : Value.okWide P W .any base t v) (h : DataW.Trod enc P W 0 (fun _ => true) true t v d p) :
    ∃ zs : List Int, zs.length < 2 ^ 63 ∧ (∀ z ∈ zs, (Lit.int k z).wf = true) ∧ ∀ L, Rel W (allOf W) fm L (.slice false 1 zs.length (zs.map fun z => .int k z)) v (fun _ => 0) := by
  obtain ⟨a0, len, cap, rfl⟩ := okWide_slice ht hv
  obtain ⟨fuel, hf⟩ := h
  rcases open_ints ht he hc hf with ⟨hcs, hx⟩ | ⟨a, len', cap', zs, hcs, _, hl, hm, hz, hx, hcell, hwz⟩
  · simp [Value.cells] at hcs
    obtain ⟨rfl, rfl, rfl⟩ := hcs
    exact ⟨[], Nat.two_pow_pos 63, by simp, fun L => rel_nil _ _ _ _⟩
  · simp [Value.cells] at hcs
    obtain ⟨rfl, rfl, rfl⟩ := hcs
    simp only [if_true] at hz
    have hml : maxLen = 9223372036854775807 := rfl
    have e1 : (zs.take len).length = len := by rw [List.length_take]; omega
    refine ⟨zs.take len, by omega, fun z hz => hwz z (List.mem_of_mem_take hz), fun L => ?_⟩
    rw [e1]
    exact rel_ints W fm L hl hz hcell

end
end Av
namespace Av
open Go Go.RowKit
theorem relL_di {w : World} {F : FZ} {fm : Nat → Nat} {L : Loc} : ∀ {zs : List Int} {vs : List Value} {X : Cnt}, RelL w F fm L (di zs) vs X → vs = zs.map (fun z => .int .i64 z) ∧ Zero X
  | [], vs, X, h => by
    simp only [di, List.map_nil] at h
    unfold RelL at h
    exact h
  | z :: zs, vs, X, h => by
    simp only [di, List.map_cons] at h
    unfold RelL at h
    obtain ⟨v, vs', X1, X2, rfl, h1, h2, h3⟩ := h
    unfold Rel at h1
    obtain ⟨rfl, h4⟩ := h1
    obtain ⟨rfl, h5⟩ := relL_di (zs := zs) h2
    exact ⟨rfl, fun b => by rw [h3, h4 b, h5 b]⟩

section
variable {P : Program} {fm : Nat → Nat}
theorem after_below {w w' : World} {F : FZ} (hF : FOK w F) (hb : Below w.heap.size w w') {X : Cnt} {zs : List Int} {n : Nat} {v : Value} (hl : zs.length = n)
    (ho : (v = .slice none 0 0 ∧ n = 0) ∨ ∃ e, w'.ownsRow w.heap.size e 1 v n (zs.map (fun z => .int .i64 z))) : After fm w F [] [] X (.slice true 1 n (di zs)) [] v w' := by
  have hlt : ∀ b o, F b o → b < w.heap.size := fun b o h => hF.lt h
  have hext : ∀ X', (∀ b, X' b ≠ 0 → w.heap.size ≤ b) → Ext w F (mkLoc w [] []) X w' F (mkLoc w' [] []) X' := fun X' hX' =>
    { cell := fun b o h => hb.cell (hlt b o h)
      sub := fun _ _ h => h
      new := fun _ _ h => .inl h
      own := fun b h => .inr (hX' b h)
      same := fun b h _ => hb.block b h
      has := fun b n ⟨c, e, z, h1, h2⟩ => by
        have : b < w.heap.size := (Array.getElem?_eq_some_iff.1 h1).1
        exact ⟨c, e, z, (hb.block b this).trans h1, h2⟩
      os := hb.os
      tape := hb.tape
      output := hb.output
      size := hb.size
      loc := ⟨fun r h => absurd h (Nat.not_lt_zero _), fun r h => absurd h (Nat.not_lt_zero _), fun r _ _ _ h => absurd h (Nat.not_lt_zero _)⟩ }
  have hfok : FOK w' F := fun b o h => by rw [hb.cell (hlt b o h)]; exact hF b o h
  have hR : RowsRel w' F fm [] [] (fun _ => 0) := by unfold RowsRel; exact ⟨rfl, Zero.of_zero⟩
  have nil : v = .slice none 0 0 ∧ n = 0 → After fm w F [] [] X (.slice true 1 n (di zs)) [] v w' := fun ⟨hv, hn⟩ => by
    subst hv
    have hz : zs = [] := List.eq_nil_of_length_eq_zero (by omega)
    subst hn; subst hz
    refine ⟨F, [], fun _ => 0, fun _ => 0, hR, ?_, fun _ => Nat.zero_le _, hfok, hext _ fun b h => absurd rfl h⟩
    unfold Rel
    exact ⟨rfl, none, 0, rfl, Nat.le_refl _, .inl ⟨rfl, rfl, Zero.of_zero⟩⟩
  rcases ho with h0 | ⟨e, h1, h2⟩
  · exact nil h0
  rcases h2 with h2 | ⟨g, cap, cur, rfl, hg, hh, hn, hm, hs, ht⟩
  · exact nil h2
  refine ⟨F, [], fun _ => 0, fun b => if b = g then 1 else 0, hR, ?_, fun b => by simp only; split <;> omega, hfok, hext _ fun b h => by
    by_cases hbg : b = g
    · omega
    · simp [hbg] at h⟩
  unfold Rel
  refine ⟨by rw [di_length]; omega, some ⟨g, 0, none⟩, cap, rfl, hn, .inr ⟨⟨g, 0, none⟩, zs.map (fun z => .int .i64 z), fun _ => 0, rfl, rfl, ?_, ?_, relL_ints _ _ _ _ _, ?_, fun b => by simp⟩⟩
  · intro u hu
    obtain ⟨z, _, rfl⟩ := List.mem_map.1 hu
    rfl
  · refine ⟨cur, e, (0, 0), hh, by simp; omega, by simp; omega, fun j hj => ?_, fun o _ => by omega⟩
    simp only [List.length_map] at hj
    have h3 : (cur.toList.take (n * 1))[j]? = (zs.map (fun z => Value.int .i64 z))[j]? := by rw [ht]
    rw [List.getElem?_take, if_pos (by omega)] at h3
    simp only [Nat.zero_add]
    rw [← Array.getElem?_toList, h3, List.getElem?_eq_getElem (by simpa using hj)]
  · intro o ho
    have := hlt _ _ ho
    simp only at this
    omega
end
end Av
namespace Go.Proofs
open Go Av Go.RowKit
theorem Try.clone_calls {fm : Nat → Nat} {w : World} {F : FZ} {X Y : Cnt} {args : List D} {rows rows' : Av.Rows} {res : D} {ms : Ms} {vs : List Value} (h : cloneP args rows = some (res, rows')) (hR : RowsRel w F fm rows ms X) (ha : RelL w F fm (mkLoc w rows ms) args vs Y) (hF : FOK w F) :
    Calls Try.prog 64 vs.toArray w fun e w' => ∃ v, e = .returned v ∧ After fm w F rows ms (fun b => X b + Y b) res rows' v w' := by
  obtain ⟨n, zs, rfl, rfl, rfl, rfl, hn⟩ := cloneP_some h
  unfold RowsRel at hR
  obtain ⟨rfl, _⟩ := hR
  unfold RelL at ha
  obtain ⟨v, vs', X1, X2, rfl, h1, h2, _⟩ := ha
  unfold RelL at h2
  obtain ⟨rfl, _⟩ := h2
  unfold Rel at h1
  obtain ⟨_, hl, a, cap, rfl, hc, h3⟩ := h1
  rw [di_length, Nat.mul_one] at hl
  have zero : zs = [] → Calls Try.prog 64 #[.slice a n cap] w fun e w' => ∃ v, e = .returned v ∧ After fm w F [] [] (fun b => X b + Y b) (.slice true 1 n (di zs)) [] v w' := fun hz => by
    subst hz
    simp only [List.length_nil] at hl
    subst hl
    match a with
    | none =>
      refine (Try.clone_nil 0 cap w).mono fun e w' ⟨he, hw⟩ => ⟨_, he, ?_⟩
      subst hw
      exact after_below hF (Below.refl _ _) rfl (.inl ⟨rfl, rfl⟩)
    | some a =>
      refine (Try.clone_zero a cap w).mono fun e w' ⟨v', he, ho, hb⟩ => ⟨v', he, ?_⟩
      exact after_below hF hb rfl (.inr ⟨_, ho⟩)
  rcases h3 with h3 | ⟨ad, us, rfl, hs, _, hsh, hrl⟩
  · exact zero (by cases zs with | nil => rfl | cons z zs => simp [di] at h3)
  obtain ⟨rfl, _⟩ := relL_di hrl
  obtain ⟨b, off, spot⟩ := ad
  simp only at hs
  subst hs
  refine (Try.clone_some b off n cap zs w (by omega) hn (fun j hj => ?_)).mono fun e w' ⟨v', he, ho, hb⟩ => ⟨v', he, ?_⟩
  · have := (hsh j (by simpa using hj)).1
    rw [this]
    simp [List.getD, hj]
  · rw [List.take_of_length_le (by omega)] at ho
    exact after_below hF hb hl (.inr ⟨_, ho⟩)
theorem Try.clone_prim {fm : Nat → Nat} {g : Nat} (hg : fm g = 64) : PrimOK Try.prog fm g cloneP := by
  intro args rows res rows' h w F ms X Y vs hR ha hX hF o a K Q hK
  rw [hg, enter_run Try.func64 (by kernel_rfl) (by kernel_rfl), Oper.upon_enter]
  refine Calls.mono (Try.clone_calls h hR ha hF) fun e' w' he => ?_
  obtain ⟨v, rfl, hA⟩ := he
  exact hK v w' hA
end Go.Proofs
namespace Av
/-- A greater table. -/
theorem tab_mono {T T' : Nat → Option Fun} (hT : ∀ g f, T g = some f → T' g = some f) : ∀ k, CLe (callK T k) (callK T' k) ∧ LLe (loopK T k) (loopK T' k)
  | 0 => ⟨fun g a r x h => by simp [callK] at h, fun l b s x h => by simp [loopK] at h⟩
  | k + 1 => by
    obtain ⟨h1, h2⟩ := tab_mono hT k
    refine ⟨fun g a r x h => ?_, fun l b s x h => ?_⟩
    · rw [callK] at h ⊢
      dsimp only at h ⊢
      split at h
      · rename_i f hf
        rw [hT _ _ hf]
        exact callBody_mono h1 h2 h
      · rename_i f hf
        rw [hT _ _ hf]
        exact h
      · simp at h
    · rw [loopK] at h ⊢
      dsimp only at h ⊢
      split at h
      · rename_i s1 hs
        rw [evalC_mono h1 h2 hs]
        exact h2 _ _ _ _ h
      · rename_i hn
        rw [evalC_mono h1 h2 h]
        obtain ⟨e, s'⟩ := x
        cases e with
        | normal => exact absurd h (hn s')
        | exit i => rfl
        | ret => rfl
theorem callW_mono {T T' : Nat → Option Fun} (hT : ∀ g f, T g = some f → T' g = some f) {g : Nat} {a : List D} {r : Rows} {x : D × Rows} (h : callW T g a r = some x) : callW T' g a r = some x := by
  obtain ⟨k, hk⟩ := callW_iff.1 h
  exact callW_iff.2 ⟨k, (tab_mono hT k).1 _ _ _ _ hk⟩
end Av

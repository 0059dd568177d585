/- A part of the proof: WorldsVisits: for every input the law returns true and the argument reads behind the call as it read before. Conditions: none. -/
import Derived.Test.YtndbkcpofkdbiaaWv3
import Derived.Laws.BytesString
import Derived.Laws.Tables
set_option linter.all false
namespace Av
open Go

/-- What is to be appended: m elements whose cells are 'us'. -/
structure Src (P : Program) (w : World) (k m : Nat) (x : Value) (us : List Value) : Prop where
  len : (Builtin.lenOf x).run P w = .ok m w
  cells : (Builtin.firstCells k m x).run P w = .ok us.toArray w
  drew : (Builtin.firstCells k m x).run P w.drew = .ok us.toArray w.drew

structure ElemT (P : Program) (t t2 : TypeId) (k bytes : Nat) (e : TypeId) (i : TypeInfo) (z : Value) : Prop where
  ht : P.underlying t = some (.slice e)
  hi : P.info? e = some i
  hz : i.zero = some z
  hk : i.size = k
  hb : i.bytes = bytes
  hzs : z.cells.size = k
  k0 : 0 < k
  b0 : 0 < bytes
  h2 : ∃ d, P.underlying t2 = some d ∧ ∀ kk, d ≠ .int kk

theorem run_append_in {P : Program} {w : World} {t t2 ty e : TypeId} {k bytes n cap m : Nat} {i : TypeInfo} {z x : Value} {a : Option Addr} {us : List Value} (hE : ElemT P t t2 k bytes e i z) (hs : Src P w k m x us) (hroom : n + m ≤ cap) :
    (Builtin.append_ #[t, t2] ty #[.slice a n cap, x]).run P w = match a with
      | some ad => ((storeCells (ad.add (n * k)) us).run P w).andThen fun _ w' => .ok (.slice a (n + m) cap) w'
      | none => .ok (.slice a (n + m) cap) w := by
  obtain ⟨d, hd, hn⟩ := hE.h2
  have hk := hE.hk
  subst hk
  cases a <;> simp [Builtin.append_, run_underlying hE.ht, run_underlying hd, Go.sizeOf, typeInfo, hE.hi, hs.len, hs.cells, hroom]

theorem run_append_new {P : Program} {w : World} {t t2 ty e : TypeId} {k bytes n cap m : Nat} {i : TypeInfo} {z x : Value} {a : Option Addr} {us olds : List Value} (hE : ElemT P t t2 k bytes e i z) (hs : Src P w k m x us) (hroom : cap < n + m)
    (hold : (Builtin.firstCells k n (.slice a n cap)).run P w.drew = .ok olds.toArray w.drew) (hb : (n + m) * bytes ≤ 140737488355328) :
    (Builtin.append_ #[t, t2] ty #[.slice a n cap, x]).run P w =
      .ok (.slice (some ⟨w.heap.size, 0, none⟩) (n + m) (grownCap w (n + m) cap e)) (w.drew.alloc (.cells (olds.toArray ++ us.toArray ++ Builtin.zeroCells z.cells (grownCap w (n + m) cap e - (n + m))) e)) := by
  obtain ⟨d, hd, hn⟩ := hE.h2
  have hk := hE.hk
  subst hk
  have hbb := hE.hb
  have h0 := hE.b0
  have hn' : ¬ (n + m ≤ cap) := by omega
  have h48 : ¬ (281474976710656 < Builtin.nextslicecap (n + m) cap * i.bytes) := by
    have := growslice_fits hroom hb
    rw [hbb]; omega
  have hb0 : ¬ i.bytes = 0 := by omega
  have fin : ∀ Z : Array Value, olds.toArray ++ (us.toArray ++ Z) = (olds ++ us).toArray ++ Z := fun Z => by rw [← Array.append_assoc]; simp
  simp [Builtin.append_, run_underlying hE.ht, run_underlying hd, Go.sizeOf, typeInfo, zeroValue, hE.hi, hE.hz, hs.len, hs.drew, hn', h48, hb0, Question.forced, hold, newRow, grownCap]
  rw [fin]

theorem size_zeroCells' (z : Array Value) (n : Nat) : (Builtin.zeroCells z n).size = n * z.size := by simp [Builtin.zeroCells]

theorem append_core {P : Program} {w : World} {F : FZ} {fm : Nat → Nat} {rows : Rows} {ms : Ms} {X Xq Xp Y1 : Cnt} {t t2 ty e : TypeId} {k bytes n cap m : Nat} {i : TypeInfo} {z x : Value} {a : Option Addr} {cs ys : List D} {vs us : List Value} {pub : Bool} {fz : Nat}
    (hE : ElemT P t t2 k bytes e i z) (hs : Src P w k m x us) (hn : n ≤ cap) (hcs : RelL w F fm L0 cs vs Xp) (ho : One vs) (hl : cs.length = n * k) (hys : RelL w F fm L0 ys us Y1) (ho2 : One us) (hl2 : ys.length = m * k)
    (hXpq : ∀ c, Xp c ≤ Xq c)
    (hloc : cap = 0 ∨ ∃ b B, a = some ⟨b, B, none⟩ ∧ Blk w b B vs (cap * k) ∧ (∀ o, F b o → pub = true ∧ o < B + fz ∧ o < B + vs.length) ∧ (∀ c, Xq c = Xp c + if c = b then 1 else 0))
    (hR : RowsRel w F fm rows ms X) (hF : FOK w F) (hX : ∀ c, X c + Xq c + Y1 c ≤ 1) (hb : (n + m) * bytes ≤ 140737488355328) :
    ∃ v' w' m' X', (Builtin.append_ #[t, t2] ty #[.slice a n cap, x]).run P w = .ok v' w' ∧
      RowsRel w' F fm (rows ++ [some { cells := cs ++ ys, pub := pub, fz := fz }]) (ms ++ [(m', 0)]) X' ∧ (∀ c, X' c ≤ 1) ∧ FOK w' F ∧
      Ext w F (mkLoc w rows ms) (fun c => X c + Xq c + Y1 c) w' F (mkLoc w' (rows ++ [some { cells := cs ++ ys, pub := pub, fz := fz }]) (ms ++ [(m', 0)])) X' ∧
      Rel w' F fm (mkLoc w' (rows ++ [some { cells := cs ++ ys, pub := pub, fz := fz }]) (ms ++ [(m', 0)])) (.ref rows.length [] 0 0 (n + m) k) v' (fun _ => 0) := by
  have hvl := hcs.length
  have hul := hys.length
  have hmul : (n + m) * k = n * k + m * k := Nat.add_mul _ _ _
  -- a new block
  have hnew : cap < n + m → (Builtin.firstCells k n (.slice a n cap)).run P w.drew = .ok vs.toArray w.drew →
      ∃ v' w' m' X', (Builtin.append_ #[t, t2] ty #[.slice a n cap, x]).run P w = .ok v' w' ∧
      RowsRel w' F fm (rows ++ [some { cells := cs ++ ys, pub := pub, fz := fz }]) (ms ++ [(m', 0)]) X' ∧ (∀ c, X' c ≤ 1) ∧ FOK w' F ∧
      Ext w F (mkLoc w rows ms) (fun c => X c + Xq c + Y1 c) w' F (mkLoc w' (rows ++ [some { cells := cs ++ ys, pub := pub, fz := fz }]) (ms ++ [(m', 0)])) X' ∧
      Rel w' F fm (mkLoc w' (rows ++ [some { cells := cs ++ ys, pub := pub, fz := fz }]) (ms ++ [(m', 0)])) (.ref rows.length [] 0 0 (n + m) k) v' (fun _ => 0) := fun hgt hold => by
    have hge := grownCap_ge w (n + m) cap e
    have hrun := run_append_new (ty := ty) hE hs hgt hold hb
    generalize hgc : grownCap w (n + m) cap e = gc at hge hrun
    let C : Array Value := vs.toArray ++ us.toArray ++ Builtin.zeroCells z.cells (gc - (n + m))
    have hsz : C.size = gc * k := by
      show (vs.toArray ++ us.toArray ++ Builtin.zeroCells z.cells (gc - (n + m))).size = gc * k
      simp only [Array.size_append, List.size_toArray, size_zeroCells', hE.hzs]
      rw [hvl, hul, hl, hl2, ← Nat.add_mul, ← Nat.add_mul]
      congr 1; omega
    have hN : Newed w (w.drew.alloc (.cells C e)) C := ⟨⟨e, rfl⟩, rfl, rfl, rfl⟩
    have hget : ∀ j (hj : j < (vs ++ us).length), C[j]? = some (vs ++ us)[j] := fun j hj => by
      show (vs.toArray ++ us.toArray ++ Builtin.zeroCells z.cells (gc - (n + m)))[j]? = _
      have he : vs.toArray ++ us.toArray = (vs ++ us).toArray := by simp
      rw [he, Array.getElem?_append_left (by simpa using hj)]
      rw [List.getElem?_toArray, List.getElem?_eq_getElem hj]
    have hone : One (vs ++ us) := fun v hv => by
      rcases List.mem_append.1 hv with h | h
      · exact ho v h
      · exact ho2 v h
    have hlen : (vs ++ us).length = (n + m) * k := by rw [List.length_append, hvl, hul, hl, hl2, hmul]
    obtain ⟨g1, g2, g3, g4, g5⟩ := new_row (Y := fun c => Xp c + Y1 c) hN hR hF (fun c => by have := hX c; have := hXpq c; omega) (hcs.append hys) hone hget (by rw [hlen, hsz]; exact Nat.mul_le_mul_right _ hge) pub fz
    refine ⟨_, _, some (w.heap.size, 0), _, hrun, g1, g4, g2, g3.count (fun c hc => by have := hXpq c; omega) (fun c hc => .inl hc), ?_⟩
    unfold Rel
    refine ⟨Zero.of_zero, by simp [mkLoc], fun h => absurd rfl h, _, gc, rfl, ⟨hge, fun h => by simp at h⟩, fun loc hlc => ?_⟩
    rw [g5] at hlc
    simp only [Option.some.injEq] at hlc
    subst hlc
    refine .inr ⟨rfl, ?_⟩
    obtain ⟨e', he'⟩ := hN.new
    exact ⟨C, e', _, he', by rw [hsz]; omega⟩
  rcases hloc with hc0 | ⟨b, B, ha, hblk, hFb, hXq⟩
  · have hn0 : n = 0 := by omega
    subst hc0 hn0
    have hcs0 : cs = [] := List.eq_nil_of_length_eq_zero (by simpa using hl)
    subst hcs0
    have hvs0 : vs = [] := List.eq_nil_of_length_eq_zero (by simpa using hvl)
    subst hvs0
    by_cases hm : m = 0
    · subst hm
      have hys0 : ys = [] := List.eq_nil_of_length_eq_zero (by simpa using hl2)
      subst hys0
      have hus0 : us = [] := List.eq_nil_of_length_eq_zero (by simpa using hul)
      subst hus0
      have hrun := run_append_in (ty := ty) (a := a) (n := 0) (cap := 0) hE hs (Nat.le_refl _)
      have hrun' : (Builtin.append_ #[t, t2] ty #[.slice a 0 0, x]).run P w = .ok (.slice a 0 0) w := by
        rw [hrun]
        cases a <;> simp [storeCells]
      refine ⟨_, _, none, _, hrun', hR.push (row := { cells := [] ++ [], pub := pub, fz := fz }) (m := none) (X1 := fun _ => 0) ⟨rfl, Zero.of_zero⟩ rfl, fun c => by have := hX c; show X c + 0 ≤ 1; omega, hF,
        Ext.still (fun _ _ h => h) (fun _ _ h => .inl h) (fun c hc => by have hc : X c + 0 ≠ 0 := hc; show X c + Xq c + Y1 c ≠ 0; omega) (mkLoc_push hR _ _), ?_⟩
      unfold Rel
      refine ⟨Zero.of_zero, by simp [mkLoc], fun h => absurd rfl h, a, 0, rfl, ⟨Nat.le_refl _, fun _ => rfl⟩, fun loc hlc => ?_⟩
      have hlen := hR.length
      simp [mkLoc, locAt, theRow, hlen.symm] at hlc
      subst hlc
      rfl
    · refine hnew (by omega) ?_
      cases a with
      | none => exact run_firstCells_none _ _ _ _ _
      | some ad => simpa using run_firstCells_some (P := P) w.drew k 0 ad 0 0 [] (by simp) (by simp)
  · subst ha
    by_cases hroom : n + m ≤ cap
    · -- in place
      have hrun := run_append_in (ty := ty) (a := some ⟨b, B, none⟩) (n := n) (cap := cap) hE hs hroom
      obtain ⟨c, e', z', h1, h2, h3, h4, h5⟩ := hblk
      have hfit : B + n * k + us.length ≤ c.size := by
        have : (n + m) * k ≤ cap * k := Nat.mul_le_mul_right _ hroom
        omega
      have hW : Wrote w (w.setCells b (B + n * k) us) b (B + n * k) us := setCells_wrote h1 hfit
      have hst : (storeCells (Addr.add ⟨b, B, none⟩ (n * k)) us).run P w = .ok () (w.setCells b (B + n * k) us) := by
        rw [add_none]
        have := run_storeCells_cells (P := P) b (B + n * k) us 0 w (fun j hj => by
          simp only [World.cell?, h1]
          simp; omega) (fun j hj => by
          have := h5 (B + n * k + 0 + j) (by omega)
          simp only [World.frozen?, h1]
          simp only [Bool.and_eq_false_iff, decide_eq_false_iff_not]
          omega) ho2
        simpa using this
      simp only [hst, Result.andThen_ok] at hrun
      have hFj : ∀ j, F b j → ¬ (B + n * k ≤ j ∧ j < B + n * k + us.length) := fun j hf => by
        have := (hFb j hf).2.2
        rw [hvl, hl] at this
        omega
      have hXb : Xp b = 0 ∧ X b = 0 ∧ Y1 b = 0 := by have := hX b; have := hXq b; simp at this; omega
      have hR' := hR.keep (hW.keep hFj hXb.2.1)
      have hrel' : RelL (w.setCells b (B + n * k) us) F fm L0 (cs ++ ys) (vs ++ us) (fun c => Xp c + Y1 c) := (hcs.keep (hW.keep hFj hXb.1) (LocLe.refl _)).append (hys.keep (hW.keep hFj hXb.2.2) (LocLe.refl _))
      obtain ⟨c0, c', e0, z0, g1, g2, g3, _, g5⟩ := hW.block
      rw [h1] at g1
      injection g1 with g1; injection g1 with g1 g1' g1''
      subst g1 g1' g1''
      have hblk' : Blk (w.setCells b (B + n * k) us) b B (vs ++ us) 0 := by
        refine ⟨c', e', z', g2, by rw [List.length_append]; omega, by omega, fun j hj => ?_, fun o ho => h5 o (by omega)⟩
        rw [g5]
        rw [List.length_append] at hj
        by_cases hjv : j < vs.length
        · rw [if_neg (by omega), h4 j hjv, List.getElem_append_left hjv]
        · rw [if_pos (by omega), List.getElem_append_right (by omega), List.getElem?_eq_getElem (by omega)]
          congr 1
          congr 1
          omega
      have hone : One (vs ++ us) := fun v hv => by
        rcases List.mem_append.1 hv with h | h
        · exact ho v h
        · exact ho2 v h
      refine ⟨_, _, some (b, B), _, hrun, hR'.push (row := { cells := cs ++ ys, pub := pub, fz := fz }) (m := some (b, B)) (X1 := fun c => (Xp c + Y1 c) + if c = b then 1 else 0) ⟨vs ++ us, _, hone, hblk', hrel', fun o hf => ?_, fun c => rfl⟩ rfl, fun c => ?_, hW.fok hF,
        hW.ext hFj (by have := hXq b; simp at this; show X b + Xq b + Y1 b ≠ 0; omega) (fun c hc => ?_) ((mkLoc_world hR fun c hc => hW.other c fun e => by subst e; exact hc hXb.2.1).trans (mkLoc_push hR' _ _)), ?_⟩
      · have := hFb o hf
        refine ⟨this.1, this.2.1, ?_⟩
        show o < B + (cs ++ ys).length
        rw [List.length_append]; omega
      · have := hX c; have := hXq c
        show X c + (Xp c + Y1 c + if c = b then 1 else 0) ≤ 1
        omega
      · have := hXq c
        have hc : X c + (Xp c + Y1 c + if c = b then 1 else 0) ≠ 0 := hc
        show X c + Xq c + Y1 c ≠ 0
        omega
      · unfold Rel
        refine ⟨Zero.of_zero, by simp [mkLoc], fun h => absurd rfl h, _, cap, rfl, ⟨hroom, fun h => by simp at h⟩, fun loc hlc => ?_⟩
        have hlen := hR.length
        simp [mkLoc, locAt, theRow, hlen.symm] at hlc
        subst hlc
        exact .inr ⟨by simp, c', e', z', g2, by omega⟩
    · refine hnew (by omega) (run_firstCells_some (P := P) w.drew k n ⟨b, B, none⟩ n cap vs (by omega) fun j v hj => ?_)
      have hlt : j < vs.length := by rcases Nat.lt_or_ge j vs.length with h | h; exact h; simp [List.getElem?_eq_none h] at hj
      rw [add_none]
      have := hblk.cells j hlt
      rw [List.getElem?_eq_getElem hlt] at hj
      rw [← hj]
      exact this
end Av
namespace Av
open Go

theorem src_of_cells {P : Program} {w : World} {k m cap : Nat} {a : Option Addr} {us : List Value} (hl : us.length = m * k) (h : us = [] ∨ ∃ b B, a = some ⟨b, B, none⟩ ∧ ∀ j (hj : j < us.length), w.cell? ⟨b, B + j, none⟩ = some us[j]) :
    Src P w k m (.slice a m cap) us := by
  have key : ∀ w' : World, (∀ x, w'.cell? x = w.cell? x) → (Builtin.firstCells k m (.slice a m cap)).run P w' = .ok us.toArray w' := fun w' hw => by
    cases a with
    | none =>
      rcases h with h | ⟨b, B, h, _⟩
      · subst h; exact run_firstCells_none _ _ _ _ _
      · simp at h
    | some ad =>
      refine run_firstCells_some (P := P) w' k m ad m cap us hl fun j v hj => ?_
      have hlt : j < us.length := by rcases Nat.lt_or_ge j us.length with h | h; exact h; simp [List.getElem?_eq_none h] at hj
      rcases h with h | ⟨b, B, h, h2⟩
      · subst h; simp at hlt
      · simp at h
        subst h
        rw [add_none, hw, h2 j hlt]
        rw [List.getElem?_eq_getElem hlt] at hj
        exact hj
  exact ⟨by simp [Builtin.lenOf], key w fun _ => rfl, key w.drew fun _ => rfl⟩

theorem src_slice {P : Program} {w : World} {F : FZ} {fm : Nat → Nat} {L : Loc} {o : Bool} {k m : Nat} {cs : List D} {x : Value} {Y : Cnt} (h : Rel w F fm L (.slice o k m cs) x Y) :
    ∃ us Y', RelL w F fm L0 cs us Y' ∧ One us ∧ Src P w k m x us ∧ (∀ b, Y' b ≤ Y b) ∧ cs.length = m * k := by
  cases o with
  | false =>
    unfold Rel at h
    obtain ⟨hz, hl, a, cap, rfl, hc, h⟩ := h
    rcases h with h | ⟨ad, vs, rfl, hs, ho, hsh, hr⟩
    · subst h
      exact ⟨[], fun _ => 0, RelL.nil, fun v hv => by simp at hv, src_of_cells (by simpa using hl) (.inl rfl), fun b => Nat.zero_le _, hl⟩
    · have := hr.length
      exact ⟨vs, fun _ => 0, hr, ho, src_of_cells (by omega) (.inr ⟨ad.block, ad.off, by rw [← hs], fun j hj => (hsh j hj).1⟩), fun b => Nat.zero_le _, hl⟩
  | true =>
    unfold Rel at h
    obtain ⟨hl, a, cap, rfl, hc, h⟩ := h
    rcases h with ⟨h, _⟩ | ⟨ad, vs, Y', rfl, hs, ho, hb, hr, _, hX⟩
    · subst h
      exact ⟨[], fun _ => 0, RelL.nil, fun v hv => by simp at hv, src_of_cells (by simpa using hl) (.inl rfl), fun b => Nat.zero_le _, hl⟩
    · have := hr.length
      exact ⟨vs, Y', hr, ho, src_of_cells (by omega) (.inr ⟨ad.block, ad.off, by rw [← hs], fun j hj => hb.cells j hj⟩), fun b => by rw [hX]; omega, hl⟩

theorem scalar_zero {w F fm L} {d : D} {v : Value} {X : Cnt} (h : Rel w F fm L d v X) (hs : scalarD d = true) : ∀ b, X b = 0 := by
  cases d <;> simp [scalarD] at hs <;> unfold Rel at h <;> exact h.2
theorem scalarL_zero {w F fm L} : ∀ {ds : List D} {vs : List Value} {X : Cnt}, RelL w F fm L ds vs X → ds.all scalarD = true → ∀ b, X b = 0
  | [], vs, X, h, _ => by unfold RelL at h; exact h.2
  | d :: ds, vs, X, h, hs => by
    unfold RelL at h
    obtain ⟨v, vs', X1, X2, rfl, h1, h2, hX⟩ := h
    simp at hs
    intro b
    rw [hX, scalar_zero h1 hs.1, scalarL_zero h2 (by simpa using hs.2)]

theorem bytes_rel {w F fm L} : ∀ s : List UInt8, RelL w F fm L (s.map fun b => D.int .u8 b.toNat) (s.map fun b => Value.int .u8 b.toNat) (fun _ => 0)
  | [] => RelL.nil
  | _ :: s => (RelL.cons (Rel.int _ _) (bytes_rel s)).congr fun _ => rfl

theorem appendSrc_ok {P : Program} {w : World} {F : FZ} {fm : Nat → Nat} {rows rows1 : Rows} {ms : Ms} {X : Cnt} {scalar take : Bool} {k m : Nat} {y : D} {ys : List D} {x : Value} (h : appendSrc rows scalar take k y = some (rows1, m, ys)) (hk : 0 < k)
    (hy : Rel w F fm (mkLoc w rows ms) y x (fun _ => 0)) (hR : RowsRel w F fm rows ms X) (hX : ∀ b, X b ≤ 1) (hF : FOK w F) :
    ∃ F1 ms1 X1 Y1 us, RowsRel w F1 fm rows1 ms1 X1 ∧ RelL w F1 fm L0 ys us Y1 ∧ One us ∧ Src P w k m x us ∧ ys.length = m * k ∧ Ext w F (mkLoc w rows ms) X w F1 (mkLoc w rows1 ms1) (fun b => X1 b + Y1 b) ∧ MsLe ms ms1 ∧ FOK w F1 ∧ (∀ b, X1 b + Y1 b ≤ 1) := by
  have hX0 : ∀ b, X b + (fun _ => 0 : Cnt) b ≤ 1 := fun b => by have := hX b; omega
  have same : ∀ {us Y1}, rows1 = rows → RelL w F fm L0 ys us Y1 → (∀ b, Y1 b = 0) → One us → Src P w k m x us → ys.length = m * k →
      ∃ F1 ms1 X1 Y1 us, RowsRel w F1 fm rows1 ms1 X1 ∧ RelL w F1 fm L0 ys us Y1 ∧ One us ∧ Src P w k m x us ∧ ys.length = m * k ∧ Ext w F (mkLoc w rows ms) X w F1 (mkLoc w rows1 ms1) (fun b => X1 b + Y1 b) ∧ MsLe ms ms1 ∧ FOK w F1 ∧ (∀ b, X1 b + Y1 b ≤ 1) :=
    fun {us Y1} he h1 hz h2 h3 h4 => by
      subst he
      exact ⟨F, ms, X, Y1, us, hR, h1, h2, h3, h4, (Ext.refl w F (mkLoc w rows1 ms) X).count (fun _ h => h) (fun b hb => .inl (by have := hz b; omega)), MsLe.refl _, hF, fun b => by rw [hz b]; exact hX b⟩
  unfold appendSrc at h
  split at h
  · -- take
    split at h
    case h_2 => simp at h
    rename_i rows2 o k' m' cs hg
    split at h
    case isFalse => simp at h
    rename_i hkk
    subst hkk
    simp only [Option.some.injEq, Prod.mk.injEq] at h
    obtain ⟨rfl, rfl, rfl⟩ := h
    obtain ⟨F1, ms1, X1, Y1, h1, h2, h3, h4, h5, h6⟩ := giveV_ok y hg hR hy hX0 hF
    obtain ⟨us, Y', g1, g2, g3, g4, g5⟩ := src_slice (P := P) h2
    exact ⟨F1, ms1, X1, Y', us, h1, g1, g2, g3, g5, h3.count (fun b hb => by simpa using hb) (fun b hb => .inl (by have := g4 b; omega)), h4, h5, fun b => by have := g4 b; have h6 : X1 b + Y1 b ≤ X b + 0 := h6 b; have := hX b; omega⟩
  · split at h
    · rename_i r path ver off m' k'
      split at h
      · -- scalar copy
        split at h
        case h_2 => simp at h
        rename_i row cells hc
        split at h
        case isFalse => simp at h
        rename_i hcond
        obtain ⟨rfl, hlen, hall⟩ := hcond
        simp only [Option.some.injEq, Prod.mk.injEq] at h
        obtain ⟨rfl, rfl, rfl⟩ := h
        have hy0 := hy
        unfold Rel at hy
        obtain ⟨_, hrn, hver, a, cap, rfl, hcap, hloc⟩ := hy
        by_cases hne : cells = []
        · subst hne
          have hm0 : m' * k = 0 := by have : off + m' * k ≤ 0 := hlen; omega
          refine same (us := []) (Y1 := fun _ => 0) rfl (by rw [hm0]; simp [cut]; exact RelL.nil) (fun _ => rfl) (fun v hv => by simp at hv) (src_of_cells (by simp [hm0]) (.inl rfl)) (cut_length hlen)
        · obtain ⟨b, base, vs, Xc, hl, ho, hcl, hrl, hrlt, hcur, hnest, hblk⟩ := cells_at hc hne hR
          have hvl := hrl.length
          obtain ⟨Y1, g1, g2⟩ := hrl.cut off (m' * k)
          have hlv : (cutL vs off (m' * k)).length = m' * k := cutL_length (by omega)
          have hsrc : Src P w k m' (.slice a m' cap) (cutL vs off (m' * k)) := by
            rcases hloc _ hl with h0 | ⟨ha, _⟩
            · have : m' = 0 := by omega
              subst this
              exact src_of_cells hlv (.inl (List.eq_nil_of_length_eq_zero (by rw [hlv]; simp)))
            · refine src_of_cells hlv (.inr ⟨b, base + off, ha, fun j hj => ?_⟩)
              obtain ⟨h1, h2⟩ := cutL_get hj
              rw [h2, Nat.add_assoc]
              exact hcl _ h1
          exact same rfl g1 (scalarL_zero g1 hall) (ho.cut _ _) hsrc (cut_length hlen)
      · -- shared
        split at h
        case h_2 => simp at h
        rename_i rows2 o k'' m'' cs hg
        split at h
        case isFalse => simp at h
        rename_i hkk
        subst hkk
        simp only [Option.some.injEq, Prod.mk.injEq] at h
        obtain ⟨rfl, rfl, rfl⟩ := h
        obtain ⟨F1, ms1, X1, Y1, h1, ⟨h2, rfl⟩, h3, h4, h5, h6⟩ := shareV_ok _ hg hR hy hX0 hF
        obtain ⟨us, Y', g1, g2, g3, g4, g5⟩ := src_slice (P := P) h2
        exact ⟨F1, ms1, X1, Y', us, h1, g1, g2, g3, g5, h3.count (fun b hb => by simpa using hb) (fun b hb => .inl (by have := g4 b; dsimp only at this ⊢; omega)), h4, h5, fun b => by have := g4 b; have h6 : X1 b + 0 ≤ X b + 0 := h6 b; have := hX b; dsimp only at *; omega⟩
    · -- a shared slice
      rename_i o k' m' cs
      split at h
      case isFalse => simp at h
      rename_i hkk
      subst hkk
      simp only [Option.some.injEq, Prod.mk.injEq] at h
      obtain ⟨rfl, rfl, rfl⟩ := h
      obtain ⟨us, Y', g1, g2, g3, g4, g5⟩ := src_slice (P := P) hy
      exact same rfl ((RelL.share (F' := F) ⟨fun _ _ h => h, fun b _ hb => by have : Y' b ≤ 0 := g4 b; omega⟩ g1)) (fun _ => rfl) g2 g3 (by rw [shareL_length]; exact g5)
    · rename_i s
      split at h
      case isFalse => simp at h
      rename_i hk1
      subst hk1
      simp only [Option.some.injEq, Prod.mk.injEq] at h
      obtain ⟨rfl, rfl, rfl⟩ := h
      have := hy.str_inv
      subst this
      refine same (us := s.map fun b => Value.int .u8 b.toNat) rfl (bytes_rel s) (fun _ => rfl) (fun v hv => ?_) ⟨by simp [Builtin.lenOf, ByteArray.size], ?_, ?_⟩ (by simp)
      · simp only [List.mem_map] at hv
        obtain ⟨b, _, rfl⟩ := hv
        rfl
      · simp [Builtin.firstCells, ByteArray.data_extract]
      · simp [Builtin.firstCells, ByteArray.data_extract]
    · simp at h
theorem room_le {n b : Nat} (h : room n b = true) : n * b ≤ 140737488355328 := by simpa [room] using h

theorem appendV_ok {P : Program} {w : World} {F : FZ} {fm : Nat → Nat} {rows rows' : Rows} {ms : Ms} {X : Cnt} {scalar take : Bool} {t t2 ty e : TypeId} {k bytes : Nat} {i : TypeInfo} {z : Value} {x y res : D} {u v : Value}
    (hE : ElemT P t t2 k bytes e i z) (h : appendV rows scalar k bytes take x y = some (res, rows')) (hx : Rel w F fm (mkLoc w rows ms) x u (fun _ => 0)) (hy : Rel w F fm (mkLoc w rows ms) y v (fun _ => 0))
    (hR : RowsRel w F fm rows ms X) (hX : ∀ b, X b ≤ 1) (hF : FOK w F) :
    ∃ v' w' F' ms' X', (Builtin.append_ #[t, t2] ty #[u, v]).run P w = .ok v' w' ∧ RowsRel w' F' fm rows' ms' X' ∧ (∀ b, X' b ≤ 1) ∧ FOK w' F' ∧ Ext w F (mkLoc w rows ms) X w' F' (mkLoc w' rows' ms') X' ∧ MsLe ms ms' ∧
      Rel w' F' fm (mkLoc w' rows' ms') res v' (fun _ => 0) := by
  unfold appendV at h
  split at h
  case h_1 => simp at h
  rename_i rows1 m ys hsrc
  obtain ⟨F1, ms1, X1, Y1, us, hR1, hys, ho2, hs, hl2, hE1, hm1, hF1, hX1⟩ := appendSrc_ok (P := P) hsrc hE.k0 hy hR hX hF
  have hx1 := hE1.rel hx
  have fin : ∀ {Xr Xq : Cnt} {rows2 : Rows} {ms2 : Ms} {cs : List D} {pub : Bool} {fz n cap : Nat} {a : Option Addr}, u = .slice a n cap → rows2.length = rows1.length → MsLe ms1 ms2 →
      Ext w F1 (mkLoc w rows1 ms1) (fun b => X1 b + Y1 b) w F1 (mkLoc w rows2 ms2) (fun c => Xr c + Xq c + Y1 c) →
      (∃ v' w' m' X', (Builtin.append_ #[t, t2] ty #[.slice a n cap, v]).run P w = .ok v' w' ∧ RowsRel w' F1 fm (rows2 ++ [some { cells := cs ++ ys, pub := pub, fz := fz }]) (ms2 ++ [(m', 0)]) X' ∧ (∀ c, X' c ≤ 1) ∧ FOK w' F1 ∧
        Ext w F1 (mkLoc w rows2 ms2) (fun c => Xr c + Xq c + Y1 c) w' F1 (mkLoc w' (rows2 ++ [some { cells := cs ++ ys, pub := pub, fz := fz }]) (ms2 ++ [(m', 0)])) X' ∧
        Rel w' F1 fm (mkLoc w' (rows2 ++ [some { cells := cs ++ ys, pub := pub, fz := fz }]) (ms2 ++ [(m', 0)])) (.ref rows2.length [] 0 0 (n + m) k) v' (fun _ => 0)) →
      ∃ v' w' F' ms' X', (Builtin.append_ #[t, t2] ty #[u, v]).run P w = .ok v' w' ∧ RowsRel w' F' fm (rows2 ++ [some { cells := cs ++ ys, pub := pub, fz := fz }]) ms' X' ∧ (∀ b, X' b ≤ 1) ∧ FOK w' F' ∧
        Ext w F (mkLoc w rows ms) X w' F' (mkLoc w' (rows2 ++ [some { cells := cs ++ ys, pub := pub, fz := fz }]) ms') X' ∧ MsLe ms ms' ∧ Rel w' F' fm (mkLoc w' (rows2 ++ [some { cells := cs ++ ys, pub := pub, fz := fz }]) ms') (.ref rows1.length [] 0 0 (n + m) k) v' (fun _ => 0) := by
    intro Xr Xq rows2 ms2 cs pub fz n cap a hu hlen hms hext hcore
    obtain ⟨v', w', m', X', g1, g2, g3, g4, g5, g6⟩ := hcore
    subst hu
    exact ⟨v', w', F1, _, X', g1, g2, g3, g4, (hE1.trans hext).trans g5, (hm1.trans hms).trans (MsLe.push _ _), by rw [← hlen]; exact g6⟩
  split at h
  · -- nil
    rename_i k' n
    split at h
    case isFalse => simp at h
    rename_i hc
    obtain ⟨rfl, rfl, hroom⟩ := hc
    simp only [Option.some.injEq, Prod.mk.injEq] at h
    obtain ⟨rfl, rfl⟩ := h
    unfold Rel at hx1
    obtain ⟨_, a, cap, rfl, hcap, hx2⟩ := hx1
    have hc0 : cap = 0 := by
      rcases hx2 with h | ⟨ad, vs, Y, _, _, _, _, _, _, hX'⟩
      · exact h.2.1
      · have := hX' ad.block; simp at this
    have := fin (Xr := X1) (Xq := fun _ => 0) (rows2 := rows1) (ms2 := ms1) (cs := []) (pub := false) (fz := 0) rfl rfl (MsLe.refl _) ((Ext.refl w F1 (mkLoc w rows1 ms1) _).count (fun _ h => h) (fun c hc => .inl (by simpa using hc)))
      (append_core (ty := ty) (Xp := fun _ => 0) hE hs hcap RelL.nil (fun v hv => by simp at hv) (by simp) hys ho2 hl2 (fun _ => Nat.le_refl _) (.inl hc0) hR1 hF1 (fun c => by have := hX1 c; omega) (by simpa using room_le hroom))
    simpa using this
  · -- a row
    rename_i r ver off n k'
    split at h
    case h_1 => simp at h
    rename_i row hrow
    split at h
    case isFalse => simp at h
    rename_i hc
    obtain ⟨rfl, hoff, hroom⟩ := hc
    simp only [Option.some.injEq, Prod.mk.injEq] at h
    obtain ⟨rfl, rfl⟩ := h
    have hr := theRow_eq hrow
    obtain ⟨mm, Xa, Xb, hm, hv0, hat, hXs, hrest⟩ := hR1.take hr
    obtain ⟨_, a, cap, rfl, hcap, hcl⟩ := hx1.ref_top hr hm
    obtain ⟨mm1, mm2⟩ := mm
    match mm1, hat, hcl with
    | none, hat, hcl =>
      have h0 : row.cells = [] := hat.1
      have hcl : cap = 0 := hcl
      have hn0 : n = 0 := by omega
      subst hn0
      have hz : ∀ c, Xa c = 0 := hat.2
      have := fin (Xr := Xb) (Xq := fun _ => 0) (rows2 := rows1.set r none) (ms2 := ms1) (cs := row.cells.drop off) (pub := row.pub) (fz := row.fz - off) rfl (by simp) (MsLe.refl _)
        (Ext.still (fun _ _ h => h) (fun _ _ h => .inl h) (fun c hc => by have := hXs c; have := hz c; omega) (mkLoc_none hR1 r))
        (append_core (ty := ty) (Xp := fun _ => 0) (vs := []) hE hs hcap (by rw [h0]; simp; exact RelL.nil) (fun v hv => by simp at hv) (by simp [h0]) hys ho2 hl2 (fun _ => Nat.le_refl _) (.inl hcl) hrest hF1 (fun c => by have := hX1 c; have := hXs c; omega) (room_le hroom))
      exact this
    | some (b, base), ⟨vs, Xc, ho, hbk, hrl, hFb, hXa⟩, hcl =>
      obtain ⟨Z1, Z2, _, hz2, hzs⟩ := hrl.take_drop off
      have hvl := hrl.length
      have hlcs : (row.cells.drop off).length = n * k := by simp; omega
      have hlvs : (vs.drop off).length = n * k := by simp; omega
      have hod : One (vs.drop off) := fun v hv => ho v (List.mem_of_mem_drop hv)
      have hext : Ext w F1 (mkLoc w rows1 ms1) (fun b => X1 b + Y1 b) w F1 (mkLoc w (rows1.set r none) ms1) (fun c => Xb c + (Z2 c + if c = b then 1 else 0) + Y1 c) :=
        Ext.still (fun _ _ h => h) (fun _ _ h => .inl h) (fun c hc => by have := hXs c; have := hXa c; have := hzs c; omega) (mkLoc_none hR1 r)
      refine fin (Xr := Xb) (Xq := fun c => Z2 c + if c = b then 1 else 0) (rows2 := rows1.set r none) (ms2 := ms1) (cs := row.cells.drop off) (pub := row.pub) (fz := row.fz - off) rfl (by simp) (MsLe.refl _) hext
        (append_core (ty := ty) (Xp := Z2) (vs := vs.drop off) hE hs hcap hz2 hod hlcs hys ho2 hl2 (fun c => by omega) ?_ hrest hF1 (fun c => by have := hX1 c; have := hXs c; have := hXa c; have := hzs c; omega) (room_le hroom))
      rcases hcl with hcl | ⟨ha, hh⟩
      · exact .inl hcl
      · refine .inr ⟨b, base + off, ha, ?_, fun o hf => ?_, fun c => rfl⟩
        · obtain ⟨c, e', z', h1, h2, h3, h4, h5⟩ := hbk
          obtain ⟨c', e'', z'', g1, g2⟩ := hh
          rw [h1] at g1
          injection g1 with g1; injection g1 with g1
          subst g1
          refine ⟨c, e', z', h1, by simp; omega, by omega, fun j hj => ?_, h5⟩
          simp at hj
          have := h4 (off + j) (by omega)
          simpa [Nat.add_assoc] using this
        · have h9 := hFb o hf
          refine ⟨h9.1, by omega, ?_⟩
          rw [hlvs]; omega
  · -- a nested own slice
    rename_i r p ps ver off n k'
    split at h
    case h_1 => simp at h
    rename_i row cells hcell
    split at h
    case isFalse => simp at h
    rename_i hc
    obtain ⟨rfl, hoff, hroom⟩ := hc
    simp only [Option.some.injEq, Prod.mk.injEq] at h
    obtain ⟨rfl, rfl⟩ := h
    obtain ⟨row', hr, hv, hn, he⟩ := cellsAt_nest hcell
    simp only at he hn
    subst he
    subst hv
    obtain ⟨mm, Xa, Xb, hm, hv0, hat, hXs, hrest⟩ := hR1.take hr
    obtain ⟨mm1, mm2⟩ := mm
    match mm1, hat with
    | none, hat => rw [hat.1] at hn; simp [nav] at hn
    | some (b, base), ⟨vs, Xc, ho, hbk, hrl, hFb, hXa⟩ =>
      obtain ⟨k2, n2, v2, Z1, R, g1, g2, g3, g4, g5, g6⟩ := nav_focus (p :: ps) row.cells vs Xc (b, base) cells (by simp) hrl hbk.cells hn
      have hnv : navC w row.cells (b, base) (p :: ps) = some v2 := by
        have := g3 []
        rw [List.append_nil] at this
        rw [this]; rfl
      obtain ⟨_, a, cap, rfl, hcap, hcl⟩ := hx1.ref_nest hr hm rfl hnv
      have hms2 : MsLe ms1 (ms1.set r (some (b, base), row.ver)) := MsLe.set hm _
      have hloc2 : LocLe (mkLoc w rows1 ms1) (mkLoc w (rows1.set r (some { row with cells := putNav row.cells (p :: ps) .undef })) (ms1.set r (some (b, base), row.ver))) :=
        mkLoc_set hR1 hr hm (Nat.le_refl _) hv0 fun _ bb p' ps' l hbb hl' => by
          have hbb' : bb = (b, base) := by simpa using hbb.symm
          subst hbb'
          exact g6 w _ (fun _ _ => rfl) hbk.cells (fun q l h => by simp [navNode] at h) _ _ hl'
      have hrest2 : RowsRel w F1 fm (rows1.set r (some { row with cells := putNav row.cells (p :: ps) .undef })) (ms1.set r (some (b, base), row.ver)) (fun c => (R c + if c = b then 1 else 0) + Xb c) := by
        refine hrest.put (row := { row with cells := putNav row.cells (p :: ps) .undef }) hm ⟨vs, R, ho, hbk, (g5 w F1 .undef (fun _ => 0) (Keep.refl _ _ _) Rel.undef0).congr fun c => by simp, fun o hf => ?_, fun c => rfl⟩
        have := hFb o hf
        refine ⟨this.1, this.2.1, ?_⟩
        show o < base + (putNav row.cells (p :: ps) .undef).length
        rw [putNav_length _ _ _ (by simp)]; exact this.2.2
      unfold Rel at g1
      obtain ⟨hl1, a2, cap2, rfl, hcap2, hnode⟩ := g1
      have mk : ∀ {Xp Xq : Cnt} {vs2 : List Value}, (∀ c, Xq c ≤ Z1 c) → (∀ c, Xp c ≤ Xq c) → RelL w F1 fm L0 (cells.drop off) vs2 Xp → One vs2 → vs2.length = n * k →
          (cap = 0 ∨ ∃ b B, a = some ⟨b, B, none⟩ ∧ Blk w b B vs2 (cap * k) ∧ (∀ o, F1 b o → false = true ∧ o < B + 0 ∧ o < B + vs2.length) ∧ (∀ c, Xq c = Xp c + if c = b then 1 else 0)) → _ :=
        fun {Xp Xq vs2} hq hpq hrel2 ho3 hl3 hloc3 => fin (Xr := fun c => (R c + if c = b then 1 else 0) + Xb c) (Xq := Xq) (rows2 := rows1.set r (some { row with cells := putNav row.cells (p :: ps) .undef })) (ms2 := ms1.set r (some (b, base), row.ver)) (cs := cells.drop off) (pub := false) (fz := 0) rfl (by simp) hms2
          (Ext.still (fun _ _ h => h) (fun _ _ h => .inl h) (fun c hc => by have := hXs c; have := hXa c; have := g2 c; have := hq c; omega) hloc2)
          (append_core (ty := ty) (Xp := Xp) (vs := vs2) hE hs hcap hrel2 ho3 (by simp; omega) hys ho2 hl2 hpq hloc3 hrest2 hF1 (fun c => by have := hX1 c; have := hXs c; have := hXa c; have := g2 c; have := hq c; omega) (room_le hroom))
      rcases hnode with ⟨h0, hcap20, _⟩ | ⟨ad, vs1, Yn, rfl, hsp, ho1, hb1, hrl1, hFn, hX1n⟩
      · subst h0
        have hk0 := hE.k0
        have hnk : n * k = 0 := by have : off + n * k = 0 := hoff; omega
        have hn0 : n = 0 := by
          rcases Nat.eq_zero_or_pos n with h | h
          · exact h
          · have := Nat.mul_pos h hk0; omega
        subst hn0
        have hcap0 : cap = 0 := hcl none (by simp [locV, hcap20])
        exact mk (Xp := fun _ => 0) (Xq := fun _ => 0) (vs2 := []) (fun _ => Nat.zero_le _) (fun _ => Nat.le_refl _) (by simp; exact RelL.nil) (fun v hv => by simp at hv) (by simp) (.inl hcap0)
      · have hvl1 := hrl1.length
        obtain ⟨W1, W2, _, hw2, hws⟩ := hrl1.take_drop off
        have hclz : cap = 0 ∨ (a = some ⟨ad.block, ad.off + off, none⟩ ∧ Has w ad.block (ad.off + off + cap * k)) := by
          rcases Nat.eq_zero_or_pos cap2 with h0 | h0
          · exact .inl (hcl none (by simp [locV, h0]))
          · exact hcl _ (locV_some h0)
        refine mk (Xp := W2) (Xq := fun c => W2 c + if c = ad.block then 1 else 0) (vs2 := vs1.drop off) (fun c => by have := hX1n c; have := hws c; omega) (fun c => by omega) hw2 (fun v hv => ho1 v (List.mem_of_mem_drop hv)) (by simp; omega) ?_
        rcases hclz with hcl | ⟨ha, hh⟩
        · exact .inl hcl
        · refine .inr ⟨ad.block, ad.off + off, ha, ?_, fun o hf => absurd hf (hFn o), fun c => rfl⟩
          obtain ⟨c, e', z', h1, h2, h3, h4, h5⟩ := hb1
          obtain ⟨c', e'', z'', q1, q2⟩ := hh
          rw [h1] at q1
          injection q1 with q1; injection q1 with q1
          subst q1
          refine ⟨c, e', z', h1, by simp; omega, by omega, fun j hj => ?_, h5⟩
          simp at hj
          have := h4 (off + j) (by omega)
          simpa [Nat.add_assoc] using this
  · simp at h
end Av
namespace Av
open Go

theorem shareL_rel {w : World} {F : FZ} {fm : Nat → Nat} {L : Loc} {ds : List D} {vs : List Value} (h : RelL w F fm L ds vs (fun _ => 0)) : RelL w F fm L (shareL ds) vs (fun _ => 0) :=
  RelL.share ⟨fun _ _ h => h, fun _ _ h => absurd rfl h⟩ h

theorem Rel.slice_any {w F fm L} {o : Bool} {k n : Nat} {cs : List D} {v : Value} (h : Rel w F fm L (.slice o k n cs) v (fun _ => 0)) :
    cs.length = n * k ∧ ∃ a cap, v = .slice a n cap ∧ n ≤ cap ∧ (cs = [] ∨ ∃ ad vs, a = some ad ∧ ad.spot = none ∧ One vs ∧ Sh w F ad.block ad.off vs ∧ RelL w F fm L0 cs vs (fun _ => 0)) := by
  cases o
  · unfold Rel at h; exact h.2
  · unfold Rel at h
    obtain ⟨hl, a, cap, hv, hc, h | ⟨ad, vs, Y, _, _, _, _, _, _, hX⟩⟩ := h
    · exact ⟨hl, a, cap, hv, hc, .inl h.1⟩
    · have := hX ad.block
      simp at this

/-- Where an operation starts. -/
structure Cx (w : World) (F : FZ) (fm : Nat → Nat) (rows : Rows) (ms : Ms) (X : Cnt) (sl : List Nat) (tms : List (Option Nat)) (vars ts : List D) (a : Act) : Prop where
  rel : RowsRel w F fm rows ms X
  one : ∀ b, X b ≤ 1
  fok : FOK w F
  fr : Fr w F fm (mkLoc w rows ms) sl tms vars ts a

section
variable {P : Program} {fm : Nat → Nat} {o : Oper} {a : Act} {w : World} {F : FZ} {rows rows' : Rows} {ms : Ms} {X : Cnt} {sl : List Nat} {tms : List (Option Nat)} {vars ts : List D} {res : D}

theorem Cx.opd (c : Cx w F fm rows ms X sl tms vars ts a) {x : Opd} {y : Operand} (h : chkO fm sl tms x y = true) : Rel w F fm (mkLoc w rows ms) (opd vars ts x) (a.eval y) (fun _ => 0) := opd_ok c.fr h

theorem Cx.pure (c : Cx w F fm rows ms X sl tms vars ts a) {v : Value} (h : (execOp a.eval o).run P w = .ok (.value v) w) (hv : Rel w F fm (mkLoc w rows ms) res v (fun _ => 0)) :
    Does P fm o a w F rows ms X res rows := Does.pure h c.rel c.one c.fok hv

theorem does_pick (c : Cx w F fm rows ms X sl tms vars ts a) {x y z : Opd} {x' y' z' : Operand} {b : Bool} (ho : o.op = .pick x' y' z') (hx : chkO fm sl tms x x' = true) (hy : chkO fm sl tms y y' = true) (hz : chkO fm sl tms z z' = true)
    (hb : opd vars ts x = .bool b) : Does P fm o a w F rows ms X (if b then opd vars ts y else opd vars ts z) rows := by
  have h1 := c.opd hx
  rw [hb] at h1
  refine c.pure (v := if b then a.eval y' else a.eval z') (by simp [execOp, ho, h1.bool_inv, asBool]) ?_
  cases b
  · exact c.opd hz
  · exact c.opd hy

theorem does_load (c : Cx w F fm rows ms X sl tms vars ts a) {m : Mode} {agg : Bool} {k : Nat} {x : Opd} {x' : Operand} {t : TypeId} {d : D} (ho : o.op = .load t x') (hx : chkO fm sl tms x x' = true) (ha : aggT P t = some agg) (hk : sizeT P t = some k) (hk0 : 0 < k)
    (h : loadV rows agg k (opd vars ts x) = some d)
    (he : (match m with
      | .asis => some (d, rows)
      | .lend => none
      | .share => (shareV rows d).map fun (rs, v) => (v, rs)
      | .own => let r := adoptV rows d; some (r.2, r.1)) = some (res, rows')) : Does P fm o a w F rows ms X res rows' := by
  obtain ⟨v, h1, h2⟩ := loadV_ok (P := P) ha hk hk0 h (c.opd hx) c.rel
  exact does_assign (by simp [execOp, ho, h1]) h2 he c.rel c.one c.fok

theorem does_store (c : Cx w F fm rows ms X sl tms vars ts a) {scalar : Bool} {k : Nat} {x y : Opd} {x' y' : Operand} {t : TypeId} (ho : o.op = .store t x' y') (hx : chkO fm sl tms x x' = true) (hy : chkO fm sl tms y y' = true) (hk : sizeT P t = some k) (hk0 : 0 < k)
    (h : storeV rows scalar k (opd vars ts x) (opd vars ts y) = some rows') : Does P fm o a w F rows ms X .undef rows' := by
  obtain ⟨w', F', ms', X', h1, h2, h3, h4, h5, h6⟩ := storeV_ok (P := P) hk hk0 h (c.opd hx) (c.opd hy) c.rel c.one c.fok
  exact Does.skip (by simp [execOp, ho, h1]) h2 h3 h4 h5 h6

theorem does_bin (c : Cx w F fm rows ms X sl tms vars ts a) {op : BinOp} {x y : Opd} {x' y' : Operand} {t z : TypeId} (ho : o.op = .binOp op t x' y' z) (hx : chkO fm sl tms x x' = true) (hy : chkO fm sl tms y y' = true)
    (h : bin op (opd vars ts x) (opd vars ts y) = some res) : Does P fm o a w F rows ms X res rows := by
  obtain ⟨z, h1, h2⟩ := bin_ok (P := P) (t := t) (p := x') (q := y') h (c.opd hx) (c.opd hy)
  unfold guarded at h1
  exact c.pure (v := z) (by simp only [execOp, ho]; rw [Sem.run_bind, h1]; rfl) h2

theorem does_eqb (c : Cx w F fm rows ms X sl tms vars ts a) {neg p q : Bool} {x y : Opd} {x' y' : Operand} {t z : TypeId} (ho : o.op = .binOp (if neg then .neq else .eql) t x' y' z) (ht : P.underlying t = some .bool) (hx : chkO fm sl tms x x' = true) (hy : chkO fm sl tms y y' = true)
    (hp : opd vars ts x = .bool p) (hq : opd vars ts y = .bool q) : Does P fm o a w F rows ms X (.bool (if neg then !(p == q) else p == q)) rows := by
  have h1 := c.opd hx
  have h2 := c.opd hy
  rw [hp] at h1
  rw [hq] at h2
  have h := eqb_ok (P := P) (w := w) (p := x') (q := y') ht neg p q
  unfold guarded at h
  refine c.pure (by simp only [execOp, ho, h1.bool_inv, h2.bool_inv]; rw [Sem.run_bind, h]; rfl) (Rel.bool _)

theorem does_un (c : Cx w F fm rows ms X sl tms vars ts a) {op : UnOp} {x : Opd} {x' : Operand} {t : TypeId} (ho : o.op = .unOp op t x') (hx : chkO fm sl tms x x' = true)
    (h : Av.un op (opd vars ts x) = some res) : Does P fm o a w F rows ms X res rows := by
  obtain ⟨z, h1, h2⟩ := un_ok (P := P) h (c.opd hx)
  exact c.pure (v := z) (by simp [execOp, ho, h1]) h2

theorem does_conv (c : Cx w F fm rows ms X sl tms vars ts a) {k k' : IntKind} {n : Int} {x : Opd} {x' : Operand} {src dst : TypeId} (ho : o.op = .convert src dst x') (hs : (P.underlying src).isSome = true) (hd : P.underlying dst = some (.int k)) (hx : chkO fm sl tms x x' = true)
    (h : opd vars ts x = .int k' n) : Does P fm o a w F rows ms X (.int k (k.wrap n)) rows := by
  have h1 := c.opd hx
  rw [h] at h1
  obtain ⟨s, hs⟩ := Option.isSome_iff_exists.1 hs
  exact c.pure (by simp [execOp, ho, h1.int_inv, convert, run_underlying hs, run_underlying hd, Conv.intToInt]) (Rel.int _ _)

theorem bytes_get (s : List UInt8) (i : Nat) : (⟨s.toArray⟩ : ByteArray)[i]? = s[i]? := by
  by_cases h : i < s.length
  · have h' : i < (⟨s.toArray⟩ : ByteArray).size := by simpa [ByteArray.size] using h
    rw [getElem?_pos (⟨s.toArray⟩ : ByteArray) i h', List.getElem?_eq_getElem h]
    rfl
  · have h' : ¬ i < (⟨s.toArray⟩ : ByteArray).size := by simpa [ByteArray.size] using h
    rw [getElem?_neg (⟨s.toArray⟩ : ByteArray) i h', List.getElem?_eq_none (by omega)]

theorem does_index (c : Cx w F fm rows ms X sl tms vars ts a) {x y : Opd} {x' y' : Operand} {t : TypeId} {s : List UInt8} {k : IntKind} {i : Int} {b : UInt8} (ho : o.op = .index t x' y') (ht : P.underlying t = some .string) (hx : chkO fm sl tms x x' = true) (hy : chkO fm sl tms y y' = true)
    (hs : opd vars ts x = .str s) (hi : opd vars ts y = .int k i) (h0 : 0 ≤ i) (hb : s[i.toNat]? = some b) : Does P fm o a w F rows ms X (.int .u8 b.toNat) rows := by
  have h1 := c.opd hx
  have h2 := c.opd hy
  rw [hs] at h1
  rw [hi] at h2
  have hg := bytes_get s i.toNat
  rw [hb] at hg
  exact c.pure (by simp [execOp, ho, h1.str_inv, h2.int_inv, Instr.index, asIntOf, run_underlying ht, h0, hg]) (Rel.int _ _)

theorem does_extract (c : Cx w F fm rows ms X sl tms vars ts a) {x : Opd} {x' : Operand} {i : Nat} {vs : List D} (ho : o.op = .extract x' i) (hx : chkO fm sl tms x x' = true) (hv : opd vars ts x = .tup vs) (h : vs[i]? = some res) : Does P fm o a w F rows ms X res rows := by
  have h1 := c.opd hx
  rw [hv] at h1
  unfold Rel at h1
  obtain ⟨us, he, hr⟩ := h1
  obtain ⟨v, X1, X2, hv', hr', hX, _⟩ := hr.get h
  exact c.pure (v := v) (by simp [execOp, ho, he, Instr.extract, hv']) (hr'.congr fun b => by have := hX b; omega)

theorem run_builtin_call {cl : Call} {b : Builtin} (ho : o.op = .call cl) (hcl : cl.callee = .builtin b) :
    (execOp a.eval o).run P w = (builtin b cl.argTypes o.type (cl.args.map fun | .const _ => true | _ => false) (cl.args.map a.eval)).run P w := by
  simp only [execOp, ho, resolve, hcl]
  rfl

theorem run_len_sl {t ty : TypeId} {e : TypeId} {ad : Option Addr} {n cap : Nat} (hu : P.underlying t = some (.slice e)) : (Builtin.len_ #[t] ty #[.slice ad n cap]).run P w = .ok (.int .i64 n) w := by
  simp [Builtin.len_, run_underlying hu, goInt]

def lenTy (P : Program) (str : Bool) (t : TypeId) : Bool :=
  match P.underlying t with
  | some .string => str
  | some (.slice _) => !str
  | _ => false

theorem does_len (c : Cx w F fm rows ms X sl tms vars ts a) {str : Bool} {x : Opd} {x' : Operand} {t : TypeId} {cl : Call} (ho : o.op = .call cl) (hcl : cl.callee = .builtin .len) (hca : cl.args = #[x']) (hct : cl.argTypes = #[t]) (ht : lenTy P str t = true) (hx : chkO fm sl tms x x' = true)
    (h : lenV str (opd vars ts x) = some res) : Does P fm o a w F rows ms X res rows := by
  have h1 := c.opd hx
  generalize opd vars ts x = d at h h1
  have fin : ∀ (v : Value), (Builtin.len_ #[t] o.type #[a.eval x']).run P w = .ok v w → Rel w F fm (mkLoc w rows ms) res v (fun _ => 0) → Does P fm o a w F rows ms X res rows := fun v hv hr =>
    c.pure (v := v) (by rw [run_builtin_call ho hcl, hca, hct]; simp only [builtin, List.map_toArray, List.map_cons, List.map_nil]; rw [Sem.run_bind, hv]; rfl) hr
  unfold lenTy at ht
  split at ht
  · rename_i hu
    subst ht
    unfold lenV at h
    split at h <;> simp at h
    rename_i s
    subst h
    exact fin _ (by rw [h1.str_inv]; exact run_len_string w t o.type _ hu) (by
      have : (⟨s.toArray⟩ : ByteArray).size = s.length := by simp [ByteArray.size]
      simp only [goInt, this]
      exact Rel.int _ _)
  · rename_i e hu
    have ht : str = false := by simpa using ht
    subst ht
    unfold lenV at h
    split at h <;> simp at h
    · rename_i ow k n cs
      subst h
      obtain ⟨_, ad, cap, hv, _⟩ := h1.slice_any
      exact fin _ (by rw [hv]; exact run_len_sl hu) (Rel.int _ _)
    · rename_i r p v off n k
      subst h
      unfold Rel at h1
      obtain ⟨_, _, _, ad, cap, hv, _⟩ := h1
      exact fin _ (by rw [hv]; exact run_len_sl hu) (Rel.int _ _)
  · simp at ht
end
end Av
namespace Av
open Go

section
variable {P : Program} {fm : Nat → Nat} {o : Oper} {a : Act} {w : World} {F : FZ} {rows rows' : Rows} {ms : Ms} {X : Cnt} {sl : List Nat} {tms : List (Option Nat)} {vars ts : List D} {res : D}

theorem does_fieldAddr (c : Cx w F fm rows ms X sl tms vars ts a) {x : Opd} {x' : Operand} {t : TypeId} {f k : Nat} {fields : Array Field} {fl : Field} (ho : o.op = .fieldAddr t x' f) (ht : P.underlying t = some (.struct fields)) (hf : fields[f]? = some fl)
    (hs : sizeT P fl.type = some k) (hk : 0 < k) (hx : chkO fm sl tms x x' = true)
    (h : (match opd vars ts x with
      | .addr r p v o => some (D.addr r p v (o + fl.offset))
      | .faddr c o => some (.faddr c (o + fl.offset))
      | _ => none) = some res) : Does P fm o a w F rows ms X res rows := by
  have h1 := c.opd hx
  have run : ∀ ad : Addr, a.eval x' = .pointer (some ad) → (execOp a.eval o).run P w = .ok (.value (.pointer (some (ad.add fl.offset)))) w := fun ad hv => by
    have hk' : ¬ k = 0 := by omega
    simp [execOp, ho, Instr.fieldAt, run_underlying ht, hf, hv, Instr.sureAddr, fieldPlace, run_sizeT hs, hk']
  split at h
  · rename_i r p v off hd
    simp only [Option.some.injEq] at h
    subst h
    rw [hd] at h1
    unfold Rel at h1
    obtain ⟨_, hr, hv, ad, he, hl⟩ := h1
    refine c.pure (run ad he) ?_
    unfold Rel
    refine ⟨Zero.of_zero, hr, hv, _, rfl, fun b base hb => ?_⟩
    rw [hl b base hb, add_none, Nat.add_assoc]
  · rename_i cs off hd
    simp only [Option.some.injEq] at h
    subst h
    rw [hd] at h1
    unfold Rel at h1
    obtain ⟨_, b, base, vs, he, hone, hsh, hr⟩ := h1
    refine c.pure (run _ he) ?_
    unfold Rel
    exact ⟨Zero.of_zero, b, base, vs, by rw [add_none, Nat.add_assoc], hone, hsh, hr⟩
  · simp at h

theorem does_field (c : Cx w F fm rows ms X sl tms vars ts a) {x : Opd} {x' : Operand} {t : TypeId} {f k : Nat} {agg : Bool} {fields : Array Field} {fl : Field} {cs : List D} (ho : o.op = .field t x' f) (ht : P.underlying t = some (.struct fields)) (hf : fields[f]? = some fl)
    (ha : aggT P fl.type = some agg) (hs : sizeT P fl.type = some k) (hx : chkO fm sl tms x x' = true) (hd : opd vars ts x = .agg cs)
    (h : (if agg then some (D.agg (cut cs fl.offset k)) else cs[fl.offset]?) = some res) : Does P fm o a w F rows ms X res rows := by
  have h1 := c.opd hx
  rw [hd] at h1
  unfold Rel at h1
  obtain ⟨vs, he, hr⟩ := h1
  cases agg with
  | true =>
    simp only [if_true, Option.some.injEq] at h
    subst h
    refine c.pure (v := .agg (vs.toArray.extract fl.offset (fl.offset + k))) (by simp [execOp, ho, Instr.field, run_underlying ht, hf, he, asAgg, part, run_isAgg' ha, run_sizeT hs]) ?_
    unfold Rel
    exact ⟨cutL vs fl.offset k, by simp [cutL, List.extract_eq_take_drop], hr.cut0 _ _⟩
  | false =>
    simp only [Bool.false_eq_true, if_false] at h
    obtain ⟨v, X1, X2, hv, hr', hX, _⟩ := hr.get h
    exact c.pure (v := v) (by simp [execOp, ho, Instr.field, run_underlying ht, hf, he, asAgg, part, run_isAgg' ha, hv]) (hr'.congr fun b => by have := hX b; omega)

theorem does_indexAddr (c : Cx w F fm rows ms X sl tms vars ts a) {x y : Opd} {x' y' : Operand} {t e : TypeId} {k : Nat} (ho : o.op = .indexAddr t x' y') (ht : P.underlying t = some (.slice e)) (hs : sizeT P e = some k) (hk : 0 < k)
    (hx : chkO fm sl tms x x' = true) (hy : chkO fm sl tms y y' = true) (h : indexAddrV k (opd vars ts x) (opd vars ts y) = some res) : Does P fm o a w F rows ms X res rows := by
  have h1 := c.opd hx
  have h2 := c.opd hy
  unfold indexAddrV at h
  split at h
  case h_2 => simp at h
  rename_i ki i hi
  rw [hi] at h2
  have run : ∀ ad n cap, a.eval x' = .slice (some ad) n cap → 0 ≤ i → i < n → (execOp a.eval o).run P w = .ok (.value (.pointer (some (ad.add (i.toNat * k))))) w := fun ad n cap hv h0 h1 => by
    simp [execOp, ho, Instr.indexAt, h2.int_inv, asIntOf, run_underlying ht, hv, h0, h1, run_sizeT hs]
  split at h
  · rename_i ow k' n cs hd
    rw [hd] at h1
    split at h
    case isFalse => simp at h
    rename_i hc
    obtain ⟨rfl, h0, hlt⟩ := hc
    simp only [Option.some.injEq] at h
    subst h
    obtain ⟨hl, ad, cap, he, hcap, hcs | ⟨ad', vs, rfl, hsp, hone, hsh, hr⟩⟩ := h1.slice_any
    · subst hcs
      have : 0 < n * k := Nat.mul_pos (by omega) hk
      simp at hl; omega
    · refine c.pure (run _ _ _ he h0 hlt) ?_
      unfold Rel
      have hsp' : ad' = ⟨ad'.block, ad'.off, none⟩ := by rw [← hsp]
      exact ⟨Zero.of_zero, ad'.block, ad'.off, vs, by rw [hsp', add_none], hone, hsh, shareL_rel hr⟩
  · rename_i r p v off n k' hd
    rw [hd] at h1
    split at h
    case isFalse => simp at h
    rename_i hc
    obtain ⟨rfl, h0, hlt⟩ := hc
    simp only [Option.some.injEq] at h
    subst h
    unfold Rel at h1
    obtain ⟨_, hr, hv, ad, cap, he, hcap, hloc⟩ := h1
    cases ad with
    | none =>
      have := hcap.2 rfl
      omega
    | some ad =>
      refine c.pure (run _ _ _ he h0 hlt) ?_
      unfold Rel
      refine ⟨Zero.of_zero, hr, hv, _, rfl, fun b base hb => ?_⟩
      have := hloc _ hb
      rcases this with h | ⟨h, _⟩
      · omega
      · simp only [Option.some.injEq] at h
        rw [h, add_none, Nat.add_assoc]
  · simp at h

/-- The two bounds. -/
theorem run_bounds {isSlice : Bool} {len cap l h : Nat} {dlo dhi : Option D} {vlo vhi : Option Value} (hi : sliceIdx dlo dhi len = some (l, h)) (hc : len ≤ cap)
    (hlo : ∀ k i, dlo = some (.int k i) → vlo = some (.int k i)) (hhi : ∀ k i, dhi = some (.int k i) → vhi = some (.int k i)) (nlo : dlo = none → vlo = none) (nhi : dhi = none → vhi = none) :
    (Instr.sliceBounds isSlice len cap vlo vhi none).run P w = .ok (l, h, cap) w ∧ l ≤ h ∧ h ≤ len := by
  unfold sliceIdx at hi
  split at hi
  case h_2 => simp at hi
  rename_i h' l' hh hl
  split at hi
  case isFalse => simp at hi
  rename_i hb
  simp only [Option.some.injEq, Prod.mk.injEq] at hi
  obtain ⟨rfl, rfl⟩ := hi
  obtain ⟨h0, h1, h2⟩ := hb
  refine ⟨?_, by omega, by omega⟩
  have hH : ∀ code, (match vhi with | some v => Instr.sliceBound v cap code | none => pure len : Sem Nat).run P w = .ok h'.toNat w := fun code => by
    split at hh
    · rw [nhi rfl]
      simp only [Option.some.injEq] at hh
      subst hh
      simp
    · rename_i k n
      rw [hhi _ _ rfl]
      simp only [Option.some.injEq] at hh
      subst hh
      have : 0 ≤ n ∧ n ≤ cap := by omega
      simp [Instr.sliceBound, asIntOf, this]
    · simp at hh
  have hL : ∀ code, (match vlo with | some v => Instr.sliceBound v h'.toNat code | none => pure 0 : Sem Nat).run P w = .ok l'.toNat w := fun code => by
    split at hl
    · rw [nlo rfl]
      simp only [Option.some.injEq] at hl
      subst hl
      simp
    · rename_i k n
      rw [hlo _ _ rfl]
      simp only [Option.some.injEq] at hl
      subst hl
      have : 0 ≤ n ∧ n ≤ (h'.toNat : Int) := by omega
      have e : max h' 0 = h' := by omega
      simp [Instr.sliceBound, asIntOf, h0, h1, e]
    · simp at hl
  unfold Instr.sliceBounds
  have hL' := hL .sliceB
  cases vhi with
  | none =>
    have hH' := hH .sliceAcap
    simp only [Sem.run_pure, Result.ok.injEq, and_true] at hH'
    cases vlo with
    | none =>
      simp only [Sem.run_pure, Result.ok.injEq, and_true] at hL'
      simp [← hL', hH']
    | some u =>
      simp only at hL'
      simp [hH', hL']
  | some v =>
    have hH' := hH (if isSlice then .sliceAcap else .sliceAlen)
    simp only at hH'
    cases vlo with
    | none =>
      simp only [Sem.run_pure, Result.ok.injEq, and_true] at hL'
      simp [hH', ← hL']
    | some u =>
      simp only at hL'
      simp [hH', hL']

end
end Av
namespace Av
open Go

theorem shareL_cut : ∀ (cs : List D) (off len : Nat), shareL (cut cs off len) = cut (shareL cs) off len := by
  have ht : ∀ (cs : List D) n, shareL (cs.take n) = (shareL cs).take n := by
    intro cs
    induction cs with
    | nil => intro n; simp [shareL]
    | cons d ds ih => intro n; cases n <;> simp [shareL, ih]
  have hd : ∀ (cs : List D) n, shareL (cs.drop n) = (shareL cs).drop n := by
    intro cs
    induction cs with
    | nil => intro n; simp [shareL]
    | cons d ds ih => intro n; cases n <;> simp [shareL, ih]
  intro cs off len
  simp [cut, ht, hd]

theorem strOf_ok {w F fm L} : ∀ {cs : List D} {vs : List Value} {X : Cnt} {s : List UInt8}, RelL w F fm L cs vs X → strOf cs = some s → ∃ ns : List Int, vs = ns.map (Value.int .u8) ∧ s = ns.map fun n => UInt8.ofNat n.toNat
  | [], vs, X, s, h, hs => by
    unfold RelL at h
    simp [strOf] at hs
    exact ⟨[], by simp [h.1], by simp [hs]⟩
  | d :: ds, vs, X, s, h, hs => by
    unfold RelL at h
    obtain ⟨v, vs', X1, X2, rfl, h1, h2, hX⟩ := h
    unfold strOf at hs
    split at hs
    · simp at *
    · rename_i n ds' heq
      simp only [List.cons.injEq] at heq
      obtain ⟨rfl, rfl⟩ := heq
      obtain ⟨s', hs', rfl⟩ := map_some hs
      obtain ⟨ns, rfl, rfl⟩ := strOf_ok h2 hs'
      exact ⟨n :: ns, by simp [h1.int_inv], by simp⟩
    · simp at hs

theorem fold_push (ns : List Int) : ns.foldl (fun r n => r.push (UInt8.ofNat n.toNat)) ByteArray.empty = ⟨(ns.map fun n => UInt8.ofNat n.toNat).toArray⟩ := by
  have : ∀ (ns : List Int) (s : List UInt8), ns.foldl (fun (r : ByteArray) n => r.push (UInt8.ofNat n.toNat)) ⟨s.toArray⟩ = ⟨(s ++ ns.map fun n => UInt8.ofNat n.toNat).toArray⟩ := by
    intro ns
    induction ns with
    | nil => intro s; simp
    | cons n ns ih =>
      intro s
      have e : (⟨s.toArray⟩ : ByteArray).push (UInt8.ofNat n.toNat) = ⟨(s ++ [UInt8.ofNat n.toNat]).toArray⟩ := by simp [ByteArray.push]
      simp only [List.foldl_cons, e, ih, List.map_cons, List.append_assoc, List.singleton_append]
  have := this ns []
  have e : ByteArray.empty = ⟨([] : List UInt8).toArray⟩ := rfl
  rw [e, this]
  simp

section
variable {P : Program} {fm : Nat → Nat} {o : Oper} {a : Act} {w : World} {F : FZ} {rows rows' : Rows} {ms : Ms} {X : Cnt} {sl : List Nat} {tms : List (Option Nat)} {vars ts : List D} {res : D}

def chkM (fm : Nat → Nat) (sl : List Nat) (tms : List (Option Nat)) : Option Opd → Option Operand → Bool
  | none, none => true
  | some x, some y => chkO fm sl tms x y
  | _, _ => false

def sliceTy (P : Program) (k : Nat) (t : TypeId) : Bool :=
  match P.underlying t with
  | some .string => k == 0
  | some (.slice e) => sizeT P e == some k && decide (0 < k)
  | _ => false

theorem does_slice (c : Cx w F fm rows ms X sl tms vars ts a) {k : Nat} {x : Opd} {x' : Operand} {lo hi : Option Opd} {lo' hi' : Option Operand} {t : TypeId} (ho : o.op = .slice t x' lo' hi' none) (ht : sliceTy P k t = true)
    (hx : chkO fm sl tms x x' = true) (hlo : chkM fm sl tms lo lo' = true) (hhi : chkM fm sl tms hi hi' = true)
    (h : sliceV k (opd vars ts x) (lo.map (opd vars ts)) (hi.map (opd vars ts)) = some res) : Does P fm o a w F rows ms X res rows := by
  have h1 := c.opd hx
  have bd : ∀ {len cap l h : Nat} {b : Bool}, sliceIdx (lo.map (opd vars ts)) (hi.map (opd vars ts)) len = some (l, h) → len ≤ cap →
      (Instr.sliceBounds b len cap (lo'.map a.eval) (hi'.map a.eval) none).run P w = .ok (l, h, cap) w ∧ l ≤ h ∧ h ≤ len := fun hi0 hc => by
    refine run_bounds hi0 hc ?_ ?_ ?_ ?_
    · intro k i he
      cases lo with
      | none => simp at he
      | some y =>
        cases lo' with
        | none => simp [chkM] at hlo
        | some y' =>
          have hh := c.opd (x := y) (y := y') hlo
          simp only [Option.map_some, Option.some.injEq] at he ⊢
          rw [he] at hh
          exact hh.int_inv
    · intro k i he
      cases hi with
      | none => simp at he
      | some y =>
        cases hi' with
        | none => simp [chkM] at hhi
        | some y' =>
          have hh := c.opd (x := y) (y := y') hhi
          simp only [Option.map_some, Option.some.injEq] at he ⊢
          rw [he] at hh
          exact hh.int_inv
    · intro he
      cases lo <;> cases lo' <;> simp_all [chkM]
    · intro he
      cases hi <;> cases hi' <;> simp_all [chkM]
  unfold sliceV at h
  unfold sliceTy at ht
  split at h
  · rename_i s hd
    rw [hd] at h1
    split at h
    case isFalse => simp at h
    rename_i hk
    subst hk
    have hty : P.underlying t = some .string := by
      split at ht
      · assumption
      · simp at ht
      · simp at ht
    obtain ⟨⟨l, h'⟩, hi0, hr⟩ := map_some h
    subst hr
    have hsz : (⟨s.toArray⟩ : ByteArray).size = s.length := by simp [ByteArray.size]
    obtain ⟨g1, g2, g3⟩ := bd (b := false) hi0 (Nat.le_refl _)
    refine c.pure (v := .string ((⟨s.toArray⟩ : ByteArray).extract l h')) (by simp [execOp, ho, Instr.sliceAt, Instr.slice, run_underlying hty, h1.str_inv, hsz, g1]) ?_
    unfold Rel
    refine ⟨?_, Zero.of_zero⟩
    congr 1
    apply ByteArray.ext
    simp [ByteArray.data_extract, List.extract_eq_take_drop]
  · rename_i ow k' n cs hd
    rw [hd] at h1
    split at h
    case isFalse => simp at h
    rename_i hkk
    obtain ⟨rfl, hk0⟩ := hkk
    have : ∃ e, P.underlying t = some (.slice e) ∧ sizeT P e = some k := by
      split at ht
      · simp at ht; omega
      · rename_i e hu
        simp only [Bool.and_eq_true, beq_iff_eq] at ht
        exact ⟨e, hu, ht.1⟩
      · simp at ht
    obtain ⟨e, hu, hs⟩ := this
    obtain ⟨⟨l, h'⟩, hi0, hr⟩ := map_some h
    subst hr
    obtain ⟨hl, ad, cap, he, hcap, hcs⟩ := h1.slice_any
    obtain ⟨g1, g2, g3⟩ := bd (b := true) hi0 hcap
    refine c.pure (v := .slice (if cap = l then ad else ad.map (·.add (l * k))) (h' - l) (cap - l)) (by simp [execOp, ho, Instr.sliceAt, Instr.slice, run_underlying hu, he, g1, run_sizeT hs]) ?_
    have hmul : (h' - l) * k + l * k ≤ n * k := by rw [← Nat.add_mul]; exact Nat.mul_le_mul_right _ (by omega)
    unfold Rel
    refine ⟨Zero.of_zero, cut_length (by rw [shareL_length]; omega), _, _, rfl, by omega, ?_⟩
    rcases hcs with hcs | ⟨ad', vs, rfl, hsp, hone, hsh, hr⟩
    · subst hcs
      left
      simp [shareL, cut]
    · by_cases hcl : cap = l
      · left
        have : h' - l = 0 := by omega
        rw [this]
        simp [cut]
      · right
        rw [if_neg hcl]
        have hsp' : ad' = ⟨ad'.block, ad'.off, none⟩ := by rw [← hsp]
        refine ⟨ad'.add (l * k), cutL vs (l * k) ((h' - l) * k), rfl, by rw [hsp', add_none], hone.cut _ _, fun j hj => ?_, shareL_cut _ _ _ ▸ shareL_rel (hr.cut0 _ _)⟩
        obtain ⟨q1, q2⟩ := cutL_get hj
        rw [q2, hsp', add_none]
        have := hsh _ q1
        simp only [Nat.add_assoc]
        exact this
  · rename_i r p v off n k' hd
    rw [hd] at h1
    split at h
    case isFalse => simp at h
    rename_i hkk
    obtain ⟨rfl, hk0⟩ := hkk
    have : ∃ e, P.underlying t = some (.slice e) ∧ sizeT P e = some k := by
      split at ht
      · simp at ht; omega
      · rename_i e hu
        simp only [Bool.and_eq_true, beq_iff_eq] at ht
        exact ⟨e, hu, ht.1⟩
      · simp at ht
    obtain ⟨e, hu, hs⟩ := this
    obtain ⟨⟨l, h'⟩, hi0, hr⟩ := map_some h
    subst hr
    unfold Rel at h1
    obtain ⟨_, hrn, hv, ad, cap, he, hcap, hloc⟩ := h1
    obtain ⟨g1, g2, g3⟩ := bd (b := true) hi0 hcap.1
    refine c.pure (v := .slice (if cap = l then ad else ad.map (·.add (l * k))) (h' - l) (cap - l)) (by simp [execOp, ho, Instr.sliceAt, Instr.slice, run_underlying hu, he, g1, run_sizeT hs]) ?_
    unfold Rel
    refine ⟨Zero.of_zero, hrn, hv, _, _, rfl, ⟨by have := hcap.1; omega, fun hn => ?_⟩, fun loc hb => ?_⟩
    · split at hn
      · omega
      · have := hcap.2 (by simpa using hn)
        omega
    · have := hloc _ hb
      match loc, this with
      | none, h => have h : cap = 0 := h; show cap - l = 0; omega
      | some (b, base), h =>
        rcases h with h | ⟨h, hh⟩
        · left; omega
        · by_cases hcl : cap = l
          · left; omega
          · right
            rw [if_neg hcl, h]
            refine ⟨by simp only [Option.map_some, add_none, Nat.add_assoc], ?_⟩
            have hc2 := hcap.1
            have : base + (off + l * k) + (cap - l) * k = base + off + cap * k := by
              have : l * k + (cap - l) * k = cap * k := by rw [← Nat.add_mul]; congr 1; omega
              omega
            rw [this]
            exact hh
  · simp at h

theorem does_toStr (c : Cx w F fm rows ms X sl tms vars ts a) {x : Opd} {x' : Operand} {src dst e : TypeId} {s : List UInt8} (ho : o.op = .convert src dst x') (hs : P.underlying src = some (.slice e)) (he : P.underlying e = some (.int .u8)) (hd : P.underlying dst = some .string)
    (hx : chkO fm sl tms x x' = true) (h : toStrV rows (opd vars ts x) = some s) : Does P fm o a w F rows ms X (.str s) rows := by
  have h1 := c.opd hx
  have fin : ∀ (ad : Option Addr) (n cap : Nat) (us : List Value) (ds : List D) (Z : Cnt), a.eval x' = .slice ad n cap → us.length = n → RelL w F fm L0 ds us Z → strOf ds = some s →
      (us = [] ∨ ∃ b B, ad = some ⟨b, B, none⟩ ∧ ∀ j (hj : j < us.length), w.cell? ⟨b, B + j, none⟩ = some us[j]) → Does P fm o a w F rows ms X (.str s) rows := fun ad n cap us ds Z hv hn hr hst hcl => by
    obtain ⟨ns, rfl, rfl⟩ := strOf_ok hr hst
    have hrun : (Conv.bytesToString (.slice ad n cap)).run P w = .ok (.string ⟨(ns.map fun n => UInt8.ofNat n.toNat).toArray⟩) w := by
      cases ad with
      | none =>
        rcases hcl with hcl | ⟨b, B, hb, _⟩
        · have : ns = [] := by simpa using hcl
          subst this
          simp [Conv.bytesToString]
          rfl
        · simp at hb
      | some ad =>
        have hld : (loadCells ad n).run P w = .ok (ns.map (Value.int .u8)).toArray w := by
          have hn' : n = (ns.map (Value.int .u8)).length := hn.symm
          rw [hn']
          refine run_loadCells_list w ad _ (fun j v hj => ?_)
          rcases hcl with hcl | ⟨b, B, hb, hcl⟩
          · rw [hcl] at hj; simp at hj
          · simp only [Option.some.injEq] at hb
            subst hb
            have hlt : j < (ns.map (Value.int .u8)).length := by rcases Nat.lt_or_ge j (ns.map (Value.int .u8)).length with h | h; exact h; simp only [List.getElem?_eq_none h] at hj; simp at hj
            rw [add_none, hcl j hlt]
            rw [List.getElem?_eq_getElem hlt] at hj
            exact hj
        rw [run_bytesToString w ad n cap ns hld, fold_push]
    exact c.pure (by simp only [execOp, ho]; rw [Sem.run_bind, hv, run_convert_bytes_string w src dst e ad n cap hs he hd, hrun]; rfl) (Rel.str _)
  unfold toStrV at h
  split at h
  · rename_i ow k n cs hd'
    rw [hd'] at h1
    split at h
    case isFalse => simp at h
    rename_i hk
    subst hk
    obtain ⟨hl, ad, cap, hv, hcap, hcs | ⟨ad', vs, rfl, hsp, hone, hsh, hr⟩⟩ := h1.slice_any
    · subst hcs
      exact fin ad n cap [] [] (fun _ => 0) hv (by simpa using hl) RelL.nil h (.inl rfl)
    · have hsp' : ad' = ⟨ad'.block, ad'.off, none⟩ := by rw [← hsp]
      exact fin _ n cap vs cs _ hv (by rw [hr.length, hl]; simp) hr h (.inr ⟨ad'.block, ad'.off, by rw [← hsp'], fun j hj => (hsh j hj).1⟩)
  · rename_i r path ver off n k hd'
    rw [hd'] at h1
    split at h
    case h_2 => simp at h
    rename_i row cells hc
    split at h
    case isFalse => simp at h
    rename_i hk
    obtain ⟨rfl, hlen⟩ := hk
    unfold Rel at h1
    obtain ⟨_, hrn, hv, ad, cap, hv', hcap, hloc⟩ := h1
    by_cases hn0 : n = 0
    · subst hn0
      have : s = [] := by simpa [cut, strOf] using h
      subst this
      exact fin ad 0 cap [] [] (fun _ => 0) hv' rfl RelL.nil rfl (.inl rfl)
    · have hne : cells ≠ [] := by intro h0; subst h0; simp at hlen; omega
      obtain ⟨b, base, vs, Xc, hl, hone, hcell, hrl, _⟩ := cells_at hc hne c.rel
      have hvl := hrl.length
      obtain ⟨Z, hz, _⟩ := hrl.cut off n
      have := hloc _ hl
      rcases this with h0 | ⟨hb, _⟩
      · have := hcap.1; omega
      · refine fin ad n cap (cutL vs off n) _ Z hv' (cutL_length (by omega)) hz h (.inr ⟨b, base + off, hb, fun j hj => ?_⟩)
        obtain ⟨q1, q2⟩ := cutL_get hj
        rw [q2, Nat.add_assoc]
        exact hcell _ q1
  · simp at h
end
end Av
namespace Av
open Go

/-- The zero value of a type, cell by cell. -/
def zeroT (P : Program) (fm : Nat → Nat) (zero : List D) (t : TypeId) : Bool :=
  match P.info? t with
  | some i => match i.zero with
    | some z => constL fm zero z.cells.toList && z.cells.toList.all (fun v => v.oneCell') && (z.cells.size == i.size)
    | none => false
  | none => false

theorem zeroT_ok {P : Program} {fm : Nat → Nat} {zero : List D} {t : TypeId} (h : zeroT P fm zero t = true) : ∃ i z, P.info? t = some i ∧ i.zero = some z ∧ constL fm zero z.cells.toList = true ∧ One z.cells.toList ∧ z.cells.size = i.size := by
  unfold zeroT at h
  split at h
  · rename_i i hi
    split at h
    · rename_i z hz
      simp only [Bool.and_eq_true, beq_iff_eq, List.all_eq_true] at h
      exact ⟨i, z, hi, hz, h.1.1, h.1.2, h.2⟩
    · simp at h
  · simp at h

theorem newed_alloc (w : World) (c : Array Value) (e : TypeId) : Newed w (w.alloc (.cells c e)) c := ⟨⟨e, rfl⟩, rfl, rfl, rfl⟩

theorem RelL.of_get {w F fm L} : ∀ {ds : List D} {vs : List Value}, vs.length = ds.length → (∀ j (h : j < ds.length) (h' : j < vs.length), Rel w F fm L ds[j] vs[j] (fun _ => 0)) → RelL w F fm L ds vs (fun _ => 0)
  | [], [], _, _ => RelL.nil
  | d :: ds, v :: vs, hl, h => by
    refine (RelL.cons (h 0 (by simp) (by simp)) (RelL.of_get (by simpa using hl) fun j hj hj' => ?_)).congr fun _ => rfl
    have := h (j + 1) (by simp; omega) (by simp; omega)
    simpa using this
  | [], _ :: _, hl, _ => by simp at hl
  | _ :: _, [], hl, _ => by simp at hl

theorem zeros_length (z : List D) : ∀ n, (zeros z n).length = n * z.length
  | 0 => by simp [zeros]
  | n + 1 => by simp [zeros, zeros_length z n, Nat.add_mul]; omega

theorem zeros_get (z : List D) (hz : 0 < z.length) : ∀ n j, j < n * z.length → (zeros z n)[j]? = z[j % z.length]?
  | 0, j, h => by simp at h
  | n + 1, j, h => by
    rw [zeros, List.getElem?_append]
    split
    · rename_i hj
      rw [Nat.mod_eq_of_lt hj]
    · rename_i hj
      rw [Nat.add_mul] at h
      rw [zeros_get z hz n _ (by omega)]
      have : j % z.length = (j - z.length) % z.length := by rw [← Nat.mod_eq_sub_mod (by omega)]
      rw [this]

theorem made_get (z : Array Value) (n j : Nat) (h : j < n) : (madeCells z n)[j]? = some (z[j % z.size]!) := by simp [madeCells, h]

theorem made_rel {w : World} {F : FZ} {fm : Nat → Nat} {L : Loc} {zero : List D} {z : Array Value} (h : constL fm zero z.toList = true) (hk : 0 < z.size) (n : Nat) : RelL w F fm L (zeros zero n) (madeCells z (n * z.size)).toList (fun _ => 0) := by
  have hr : RelL w F fm L zero z.toList (fun _ => 0) := constL_rel h
  have hl : z.size = zero.length := by have := hr.length; simpa using this
  refine RelL.of_get (by simp [size_madeCells, zeros_length, hl]) fun j hj hj' => ?_
  have hj1 : j < n * zero.length := by rwa [zeros_length] at hj
  have e1 := zeros_get zero (by omega) n j hj1
  rw [List.getElem?_eq_getElem hj] at e1
  have hmod : j % z.size < z.size := Nat.mod_lt _ hk
  obtain ⟨v, X1, X2, hv, hr', hX, _⟩ := hr.get (i := j % zero.length) (d := (zeros zero n)[j]) e1.symm
  have e2 : (madeCells z (n * z.size)).toList[j]? = some v := by
    rw [Array.getElem?_toList, made_get z _ j (by rw [hl]; exact hj1)]
    rw [← hl, Array.getElem?_toList] at hv
    rw [getElem!_pos z _ hmod]
    rw [getElem?_pos z _ hmod] at hv
    exact hv
  rw [List.getElem?_eq_getElem hj'] at e2
  have : (madeCells z (n * z.size)).toList[j] = v := by simpa using e2
  rw [this]
  exact hr'.congr fun b => by have := hX b; omega

theorem made_one {z : Array Value} (h : One z.toList) (hk : 0 < z.size) (n : Nat) : One (madeCells z n).toList := fun v hv => by
  have : v ∈ madeCells z n := by simpa using hv
  simp only [madeCells, Array.mem_map] at this
  obtain ⟨i, _, rfl⟩ := this
  have hmod : i % z.size < z.size := Nat.mod_lt _ hk
  rw [getElem!_pos z _ hmod]
  exact h _ (by simp)

theorem storable_all {w F fm L} : ∀ {ds : List D} {vs : List Value} {X : Cnt}, RelL w F fm L ds vs X → ds.all storable = true → One vs
  | [], vs, X, h, _ => by unfold RelL at h; rw [h.1]; intro v hv; simp at hv
  | d :: ds, vs, X, h, hs => by
    unfold RelL at h
    obtain ⟨v, vs', X1, X2, rfl, h1, h2, hX⟩ := h
    simp only [List.all_cons, Bool.and_eq_true] at hs
    intro u hu
    rcases List.mem_cons.1 hu with rfl | hu
    · exact storable_one h1 hs.1
    · exact storable_all h2 hs.2 u hu

section
variable {P : Program} {fm : Nat → Nat} {o : Oper} {a : Act} {w : World} {F : FZ} {rows rows' : Rows} {ms : Ms} {X : Cnt} {sl : List Nat} {tms : List (Option Nat)} {vars ts : List D} {res : D}

theorem does_alloc (c : Cx w F fm rows ms X sl tms vars ts a) {zero : List D} {t : TypeId} (ho : o.op = .alloc t) (hz : zeroT P fm zero t = true) :
    Does P fm o a w F rows ms X (.addr rows.length [] 0 0) (rows ++ [some { cells := zero }]) := by
  obtain ⟨i, z, hi, hz, hc, h1, hsz⟩ := zeroT_ok hz
  have hN := newed_alloc w z.cells t
  obtain ⟨g1, g2, g3, g4, g5⟩ := new_row (Y := fun _ => 0) hN c.rel c.fok (fun b => by have := c.one b; omega) (constL_rel hc) h1 (fun j hj => by rw [← Array.getElem?_toList]; exact List.getElem?_eq_getElem hj) (by simp) false 0
  refine Does.run (v := .pointer (some ⟨w.heap.size, 0, none⟩)) (by simp [execOp, ho, Instr.alloc, zeroValue, typeInfo, hi, hz, newVar, newRow]) g1 g4 g2 (g3.count (fun b hb => by simpa using hb) (fun b hb => .inl hb)) (MsLe.push _ _) (Rel.new_addr g5 (by simp [mkLoc]))

theorem does_box (c : Cx w F fm rows ms X sl tms vars ts a) {x : Opd} {x' : Operand} {t : TypeId} {ds : List D} (ho : o.op = .box t x') (hx : chkO fm sl tms x x' = true) (h : giveVs rows (comps (opd vars ts x)) = some (rows', ds)) (hs : ds.all storable = true) :
    Does P fm o a w F rows ms X (.addr rows'.length [] 0 0) (rows' ++ [some { cells := ds }]) := by
  have h1 := c.opd hx
  have hne : opd vars ts x ≠ .undef := by intro h0; rw [h0] at h; simp [comps, giveVs, giveV] at h
  obtain ⟨F1, ms1, X1, Y1, hR1, hds, hE1, hm1, hF1, hle1⟩ := giveVs_ok _ h c.rel (comps_ok h1 hne) (fun b => by have := c.one b; omega) c.fok
  have hone := storable_all hds hs
  have hN := newed_alloc w (a.eval x').cells t
  obtain ⟨g1, g2, g3, g4, g5⟩ := new_row (Y := Y1) hN hR1 hF1 (fun b => by have := hle1 b; have := c.one b; dsimp only at *; omega) hds hone (fun j hj => by rw [← Array.getElem?_toList]; exact List.getElem?_eq_getElem hj) (by simp) false 0
  refine Does.run (v := .pointer (some ⟨w.heap.size, 0, none⟩)) (by simp [execOp, ho, Instr.box, newVar, newRow]) g1 g4 g2 ((hE1.trans g3).count (fun b hb => by simpa using hb) (fun b hb => .inl hb)) (hm1.trans (MsLe.push _ _)) (Rel.new_addr g5 (by simp [mkLoc]))

theorem does_makeSlice (c : Cx w F fm rows ms X sl tms vars ts a) {m : Mode} {zero : List D} {bytes : Nat} {x y : Opd} {x' y' : Operand} {t e : TypeId} {i : TypeInfo} {kl kc : IntKind} {l n : Int} (ho : o.op = .makeSlice t x' y') (ht : P.underlying t = some (.slice e)) (hz : zeroT P fm zero e = true) (hi : P.info? e = some i) (hb : i.bytes = bytes) (hk : 0 < i.size)
    (hx : chkO fm sl tms x x' = true) (hy : chkO fm sl tms y y' = true) (hl : opd vars ts x = .int kl l) (hn : opd vars ts y = .int kc n) (h0 : 0 ≤ l) (hln : l ≤ n) (h63 : n ≤ 9223372036854775807) (hroom : room n.toNat bytes = true)
    (h : madeV m rows (.slice true zero.length l.toNat (zeros zero l.toNat)) = some (res, rows')) : Does P fm o a w F rows ms X res rows' := by
  obtain ⟨i', z, hi', hz, hc, h1, hsz⟩ := zeroT_ok hz
  rw [hi] at hi'
  have : i = i' := by simpa using hi'
  subst this
  have hx1 := c.opd hx
  have hy1 := c.opd hy
  rw [hl] at hx1
  rw [hn] at hy1
  have hbytes : (i.bytes : Int) * n ≤ 281474976710656 := by
    have h2 := room_le hroom
    have h3 : ((n.toNat * bytes : Nat) : Int) ≤ 140737488355328 := by omega
    rw [Int.natCast_mul, Int.toNat_of_nonneg (by omega), Int.mul_comm, ← hb] at h3
    omega
  have hrun := run_make (P := P) w t e i z ht hi hz kl kc l n h0 hln hbytes h63
  rw [← hsz] at hrun
  have hzl : z.cells.size = zero.length := by have := (constL_rel (w := w) (F := F) (L := L0) hc).length; simpa using this
  have hN := newed_alloc w (madeCells z.cells (n.toNat * z.cells.size)) e
  have hle : l.toNat * z.cells.size ≤ n.toNat * z.cells.size := Nat.mul_le_mul_right _ (by omega)
  obtain ⟨g1, g2, g3, g4, g5⟩ := new_slice (Y := fun _ => 0) (k := zero.length) (n := l.toNat) (cap := n.toNat) hN c.rel c.fok (fun b => by have := c.one b; omega) (made_rel hc (by omega) l.toNat) (made_one h1 (by omega) _) (fun j hj => by
      have hj' : j < l.toNat * z.cells.size := by simpa [size_madeCells] using hj
      rw [made_get _ _ j (by omega)]
      have := made_get z.cells (l.toNat * z.cells.size) j hj'
      rw [← Array.getElem?_toList, List.getElem?_eq_getElem hj] at this
      exact this.symm) (by simp only [Array.length_toList, size_madeCells]; exact hle) (by rw [size_madeCells, hzl]; exact Nat.le_refl _) (by rw [zeros_length]) (by omega)
  obtain ⟨F', ms', X', q1, q2, q3, q4, q5, q6⟩ := madeV_ok h g1 g2 g5 g3
  refine Does.run (by simp only [execOp, ho, hx1.int_inv, hy1.int_inv]; rw [Sem.run_bind, hrun]; rfl) q1 (fun b => Nat.le_trans (q6 b) (g5 b)) q5 ((g4.trans q3).count (fun b hb => by simpa using hb) (fun b hb => .inl hb)) q4 q2

theorem does_append (c : Cx w F fm rows ms X sl tms vars ts a) {scalar take : Bool} {k bytes : Nat} {x y : Opd} {x' y' : Operand} {t t2 e : TypeId} {i : TypeInfo} {z : Value} {cl : Call} (ho : o.op = .call cl) (hcl : cl.callee = .builtin .append) (hca : cl.args = #[x', y']) (hct : cl.argTypes = #[t, t2])
    (hE : ElemT P t t2 k bytes e i z) (hx : chkO fm sl tms x x' = true) (hy : chkO fm sl tms y y' = true) (h : appendV rows scalar k bytes take (opd vars ts x) (opd vars ts y) = some (res, rows')) : Does P fm o a w F rows ms X res rows' := by
  obtain ⟨v', w', F', ms', X', g1, g2, g3, g4, g5, g6, g7⟩ := appendV_ok (ty := o.type) hE h (c.opd hx) (c.opd hy) c.rel c.one c.fok
  exact Does.run (by rw [run_builtin_call ho hcl, hca, hct]; simp only [builtin, List.map_toArray, List.map_cons, List.map_nil]; rw [Sem.run_bind, g1]; rfl) g2 g3 g4 g5 g6 g7
end
end Av
namespace Av
open Go

/-! ### Parts laid into zero cells -/
theorem foldl_lay : ∀ (us : List Value) (i off : Nat) (cs : Array Value), ((us.zipIdx i).foldl (fun (cs : Array Value) (x : Value × Nat) => cs.setIfInBounds (off + x.2) x.1) cs).toList = layV cs.toList (off + i) us
  | [], _, _, _ => rfl
  | u :: us, i, off, cs => by
    simp only [List.zipIdx_cons, List.foldl_cons, layV]
    rw [foldl_lay us (i + 1) off]
    simp [Nat.add_assoc]

def PartsRel (w : World) (F : FZ) (fm : Nat → Nat) (L : Loc) (place : Nat → Option (Nat × Nat)) : List (Nat × Nat × List D) → List (Nat × Value) → Cnt → Prop
  | [], qs, X => qs = [] ∧ Zero X
  | p :: ps, qs, X => ∃ q qs' X1 X2, qs = q :: qs' ∧ place q.1 = some (p.1, p.2.1) ∧ RelL w F fm L p.2.2 q.2.cells.toList X1 ∧ PartsRel w F fm L place ps qs' X2 ∧ ∀ b, X b = X1 b + X2 b

theorem fill_ok {w : World} {F : FZ} {fm : Nat → Nat} {L : Loc} {place : Nat → Option (Nat × Nat)} : ∀ {ps : List (Nat × Nat × List D)} {qs : List (Nat × Value)} {cells cs : List D} {vs : Array Value} {X Y : Cnt},
    fill cells ps = some cs → PartsRel w F fm L place ps qs Y → RelL w F fm L cells vs.toList X → ∃ vs' Z, Instr.fill place vs qs = some vs' ∧ RelL w F fm L cs vs'.toList Z ∧ ∀ b, Z b ≤ X b + Y b
  | [], qs, cells, cs, vs, X, Y, h, hp, hr => by
    simp only [PartsRel] at hp
    obtain ⟨rfl, hz⟩ := hp
    simp only [fill, Option.some.injEq] at h
    subst h
    exact ⟨vs, X, rfl, hr, fun b => by omega⟩
  | (off, k, ds) :: ps, qs, cells, cs, vs, X, Y, h, hp, hr => by
    simp only [PartsRel] at hp
    obtain ⟨q, qs', X1, X2, rfl, hpl, hd, hrest, hY⟩ := hp
    simp only [fill] at h
    split at h
    case isFalse => simp at h
    rename_i hc
    obtain ⟨hk, hl⟩ := hc
    obtain ⟨Z1, hZ1, hle1⟩ := hr.lay (off := off) hd (by omega)
    have hlen := hd.length
    have hlen2 := hr.length
    have e : (q.2.cells.zipIdx.foldl (fun cs (c, j) => cs.setIfInBounds (off + j) c) vs).toList = layV vs.toList off q.2.cells.toList := by
      have := foldl_lay q.2.cells.toList 0 off vs
      rw [Nat.add_zero] at this
      rw [← this]
      rw [← Array.foldl_toList, Array.toList_zipIdx]
    rw [← e] at hZ1
    obtain ⟨vs', Z, g1, g2, g3⟩ := fill_ok h hrest hZ1
    refine ⟨vs', Z, ?_, g2, fun b => by have := g3 b; have := hle1 b; have := hY b; omega⟩
    simp only [Instr.fill, hpl]
    have s1 : q.2.cells.size = k := by rw [← hk, ← hlen]; simp
    have s2 : vs.size = cells.length := by rw [← hlen2]; simp
    rw [if_neg (by simp only [Bool.or_eq_true, ne_eq, decide_eq_true_eq]; omega)]
    exact g1

def placeAt (P : Program) (t : TypeId) (i : Nat) : Option (Nat × Nat) :=
  match P.underlying t with
  | some (.array _ e) => (P.info? e).map fun ie => (i * ie.size, ie.size)
  | some (.struct fields) => match fields.toList.mapM (fun f => (P.info? f.type).map fun i => (f.offset, i.size)) with
    | some places => places.toArray[i]?
    | none => none
  | _ => none

theorem built_eq {P : Program} {t : TypeId} {i : TypeInfo} {z : Value} (h : (P.built t []).isSome = true) (hi : P.info? t = some i) (hz : i.zero = some z) (parts : List (Nat × Value)) : P.built t parts = Instr.fill (placeAt P t) z.cells parts := by
  have hfun : ∀ {p q : Nat → Option (Nat × Nat)}, (∀ i, p i = q i) → Instr.fill p z.cells parts = Instr.fill q z.cells parts := fun hpq => by rw [funext hpq]
  unfold Program.built at h ⊢
  cases hu : P.underlying t with
  | none => simp [hi, hu] at h
  | some d =>
    cases d <;> try (simp [hi, hu] at h; done)
    case array n e =>
      cases hie : P.info? e with
      | none => simp [hi, hu, hz, hie] at h
      | some ie =>
        simp only [hi, hz, hie]
        exact hfun fun i => by simp [placeAt, hu, hie]
    case struct fields =>
      cases hp : fields.toList.mapM (fun f => (P.info? f.type).map fun i => (f.offset, i.size)) with
      | none => simp [hi, hu, hz, hp] at h
      | some places =>
        simp only [hi, hz, hp]
        exact hfun fun i => by simp [placeAt, hu, hp]

section
variable {P : Program} {fm : Nat → Nat} {o : Oper} {a : Act} {w : World} {F : FZ} {rows rows' : Rows} {ms : Ms} {X : Cnt} {sl : List Nat} {tms : List (Option Nat)} {vars ts : List D} {res : D}

def chkP (P : Program) (fm : Nat → Nat) (sl : List Nat) (tms : List (Option Nat)) (t : TypeId) : List (Nat × Nat × Opd) → List (Nat × Operand) → Bool
  | [], [] => true
  | p :: ps, q :: qs => placeAt P t q.1 == some (p.1, p.2.1) && chkO fm sl tms p.2.2 q.2 && chkP P fm sl tms t ps qs
  | _, _ => false

theorem parts_ok {t : TypeId} {L : Loc} (c : Fr w F fm L sl tms vars ts a) : ∀ {ps : List (Nat × Nat × Opd)} {qs : List (Nat × Operand)}, chkP P fm sl tms t ps qs = true → (ps.all fun p => !isU (opd vars ts p.2.2)) = true →
    PartsRel w F fm L (placeAt P t) (ps.map fun p => (p.1, p.2.1, comps (opd vars ts p.2.2))) (qs.map fun q => (q.1, a.eval q.2)) (fun _ => 0)
  | [], [], _, _ => by simp only [List.map_nil, PartsRel]; exact ⟨trivial, Zero.of_zero⟩
  | p :: ps, q :: qs, h, hu => by
    simp only [chkP, Bool.and_eq_true, beq_iff_eq] at h
    simp only [List.all_cons, Bool.and_eq_true] at hu
    simp only [List.map_cons, PartsRel]
    refine ⟨_, _, fun _ => 0, fun _ => 0, rfl, h.1.1, comps_ok (opd_ok c h.1.2) (fun h0 => ?_), parts_ok c h.2 hu.2, fun _ => rfl⟩
    rw [h0] at hu
    simp [isU] at hu
  | [], _ :: _, h, _ => by simp [chkP] at h
  | _ :: _, [], h, _ => by simp [chkP] at h

theorem does_build (c : Cx w F fm rows ms X sl tms vars ts a) {zero cs : List D} {ps : List (Nat × Nat × Opd)} {t : TypeId} {qs : Array (Nat × Operand)} (ho : o.op = .build t qs) (hz : zeroT P fm zero t = true) (hb : (P.built t []).isSome = true) (hp : chkP P fm sl tms t ps qs.toList = true)
    (hu : (ps.all fun p => !isU (opd vars ts p.2.2)) = true) (h : fill zero (ps.map fun p => (p.1, p.2.1, comps (opd vars ts p.2.2))) = some cs) : Does P fm o a w F rows ms X (.agg cs) rows := by
  obtain ⟨i, z, hi, hz, hc, h1, hsz⟩ := zeroT_ok hz
  obtain ⟨vs', Z, g1, g2, g3⟩ := fill_ok h (parts_ok c.fr hp hu) (constL_rel (w := w) (F := F) (L := mkLoc w rows ms) hc)
  have hbt : P.built t (qs.map fun (i, x) => (i, a.eval x)).toList = some vs' := by
    rw [built_eq hb hi hz, ← g1]
    simp
  refine c.pure (v := .agg vs') (by simp only [execOp, ho]; rw [Sem.run_bind, run_build w t _ vs' hbt]; rfl) ?_
  unfold Rel
  exact ⟨vs'.toList, by simp, g2.congr fun b => by have := g3 b; omega⟩

def chkS (fm : Nat → Nat) (sl : List Nat) (tms : List (Option Nat)) (k : Nat) : List (Nat × Opd) → List (Nat × Operand) → Bool
  | [], [] => true
  | p :: ps, q :: qs => p.1 == q.1 * k && chkO fm sl tms p.2 q.2 && chkS fm sl tms k ps qs
  | _, _ => false

theorem chkS_rel {L : Loc} {k : Nat} (c : Fr w F fm L sl tms vars ts a) : ∀ {ps : List (Nat × Opd)} {qs : List (Nat × Operand)}, chkS fm sl tms k ps qs = true → (∀ p ∈ ps, opd vars ts p.2 ≠ .undef) →
    RelL w F fm L (ps.map fun p => .agg (comps (opd vars ts p.2))) (qs.map fun q => .agg (a.eval q.2).cells) (fun _ => 0)
  | [], [], _, _ => RelL.nil
  | p :: ps, q :: qs, h, hu => by
    simp only [chkS, Bool.and_eq_true] at h
    refine (RelL.cons (X1 := fun _ => 0) ?_ (chkS_rel c h.2 fun p hp => hu p (by simp [hp]))).congr fun _ => rfl
    unfold Rel
    exact ⟨(a.eval q.2).cells.toList, by simp, comps_ok (opd_ok c h.1.2) (hu p (by simp))⟩
  | [], _ :: _, h, _ => by simp [chkS] at h
  | _ :: _, [], h, _ => by simp [chkS] at h

theorem giveVs_undef : ∀ {ds : List D} {rows rows' : Rows} {es : List D}, giveVs rows ds = some (rows', es) → .undef ∉ ds
  | [], _, _, _, _ => by simp
  | d :: ds, rows, rows', es, h => by
    simp only [giveVs] at h
    split at h
    case h_1 => simp at h
    rename_i rs d' h1
    split at h
    case h_1 => simp at h
    rename_i rs2 ds2 h2
    have := giveVs_undef h2
    simp only [List.mem_cons, not_or]
    refine ⟨?_, this⟩
    rintro rfl
    simp [giveV] at h1

theorem giveVs_agg : ∀ {ds : List (List D)} {rows rows' : Rows} {es : List D}, giveVs rows (ds.map .agg) = some (rows', es) → (∀ d ∈ ds, .undef ∉ d) ∧ ∃ fs : List (List D), es = fs.map .agg
  | [], _, _, _, h => by simp [giveVs] at h; exact ⟨by simp, [], by simp [h.2]⟩
  | d :: ds, rows, rows', es, h => by
    simp only [List.map_cons, giveVs] at h
    split at h
    case h_1 => simp at h
    rename_i rs d' h1
    split at h
    case h_1 => simp at h
    rename_i rs2 ds2 h2
    simp only [Option.some.injEq, Prod.mk.injEq] at h
    obtain ⟨rfl, rfl⟩ := h
    obtain ⟨g1, fs, rfl⟩ := giveVs_agg h2
    simp only [giveV] at h1
    obtain ⟨⟨rs', ds'⟩, h3, h4⟩ := map_some h1
    simp only [Prod.mk.injEq] at h4
    obtain ⟨rfl, rfl⟩ := h4
    refine ⟨fun x hx => ?_, ds' :: fs, by simp⟩
    rcases List.mem_cons.1 hx with rfl | hx
    · exact giveVs_undef h3
    · exact g1 x hx

theorem chkS_parts {L : Loc} {k : Nat} : ∀ {ps : List (Nat × Opd)} {qs : List (Nat × Operand)} {es : List D} {Y : Cnt}, chkS fm sl tms k ps qs = true → RelL w F fm L es (qs.map fun q => .agg (a.eval q.2).cells) Y → (∃ fs : List (List D), es = fs.map .agg) →
    PartsRel w F fm L (fun i => some (i * k, k)) ((ps.zip es).map fun pv => (pv.1.1, k, comps pv.2)) (qs.map fun q => (q.1, a.eval q.2)) Y
  | [], [], es, Y, _, hr, _ => by
    have := hr.length
    have : es = [] := List.eq_nil_of_length_eq_zero (by simpa using this.symm)
    subst this
    unfold RelL at hr
    simp only [List.zip_nil_left, List.map_nil, PartsRel]
    exact ⟨trivial, hr.2⟩
  | p :: ps, q :: qs, [], Y, _, hr, _ => by have := hr.length; simp at this
  | p :: ps, q :: qs, e :: es, Y, h, hr, hf => by
    obtain ⟨fs, hfs⟩ := hf
    cases fs with
    | nil => simp at hfs
    | cons f fs =>
    simp only [List.map_cons, List.cons.injEq] at hfs
    obtain ⟨rfl, rfl⟩ := hfs
    simp only [chkS, Bool.and_eq_true, beq_iff_eq] at h
    unfold RelL at hr
    obtain ⟨v, vs', X1, X2, he, h1, h2, hX⟩ := hr
    simp only [List.map_cons, List.cons.injEq] at he
    obtain ⟨rfl, rfl⟩ := he
    simp only [List.zip_cons_cons, List.map_cons, PartsRel]
    unfold Rel at h1
    obtain ⟨us, hu, h1⟩ := h1
    simp only [Value.agg.injEq] at hu
    refine ⟨_, _, X1, X2, rfl, by rw [h.1.1], by rw [hu]; simpa [comps] using h1, chkS_parts h.2 h2 ⟨fs, rfl⟩, hX⟩
  | [], _ :: _, _, _, h, _, _ => by simp [chkS] at h
  | _ :: _, [], _, _, h, _, _ => by simp [chkS] at h

theorem does_buildSlice (c : Cx w F fm rows ms X sl tms vars ts a) {m : Mode} {zero es cs : List D} {n : Nat} {rows1 : Rows} {ps : List (Nat × Opd)} {t e : TypeId} {i : TypeInfo} {qs : Array (Nat × Operand)} (ho : o.op = .buildSlice t n qs) (ht : P.underlying t = some (.slice e)) (hz : zeroT P fm zero e = true) (hi : P.info? e = some i)
    (hk : 0 < i.size) (hk2 : i.size = zero.length) (hroom : n * i.size ≤ 16777216) (hp : chkS fm sl tms zero.length ps qs.toList = true) (hg : giveVs rows (ps.map fun p => .agg (comps (opd vars ts p.2))) = some (rows1, es))
    (hf : fill (zeros zero n) ((ps.zip es).map fun pv => (pv.1.1, zero.length, comps pv.2)) = some cs) (hs : cs.all storable = true) (h : madeV m rows1 (.slice true zero.length n cs) = some (res, rows')) : Does P fm o a w F rows ms X res rows' := by
  obtain ⟨i', z, hi', hz, hc, h1, hsz⟩ := zeroT_ok hz
  rw [hi] at hi'
  have : i = i' := by simpa using hi'
  subst this
  have hagg := giveVs_agg (ds := ps.map fun p => comps (opd vars ts p.2)) (by rw [List.map_map]; exact hg)
  have hne : ∀ p ∈ ps, opd vars ts p.2 ≠ .undef := fun p hpm h0 => by
    have := hagg.1 (comps (opd vars ts p.2)) (List.mem_map_of_mem hpm)
    rw [h0] at this
    simp [comps] at this
  obtain ⟨F1, ms1, X1, Y1, hR1, hds, hE1, hm1, hF1, hle1⟩ := giveVs_ok _ hg c.rel (chkS_rel c.fr hp hne) (fun b => by have := c.one b; omega) c.fok
  have hzr := made_rel (w := w) (F := F1) (L := L0) hc (by omega) n
  obtain ⟨vs', Z, g1, g2, g3⟩ := fill_ok hf (chkS_parts hp hds hagg.2) hzr
  have hlen := g2.length
  have hcl : cs.length = n * zero.length := by
    have : ∀ {ps : List (Nat × Nat × List D)} {cells cs : List D}, fill cells ps = some cs → cs.length = cells.length := by
      intro ps
      induction ps with
      | nil => intro cells cs h; simp [fill] at h; rw [h]
      | cons p ps ih =>
        intro cells cs h
        obtain ⟨off, k, ds⟩ := p
        simp only [fill] at h
        split at h
        case isFalse => simp at h
        rw [ih h, layAt_length]
    rw [this hf, zeros_length]
  have hrun : (Instr.buildSlice t n (qs.map fun (i, x) => (i, a.eval x))).run P w = .ok (.slice (some ⟨w.heap.size, 0, none⟩) n n) (w.alloc (.cells vs' e)) := by
    have hroom' : ¬ (16777216 < n * i.size) := by omega
    have g1' : Instr.fill (fun i => some (i * zero.length, zero.length)) ((Array.range (n * i.size)).map (z.cells[· % z.cells.size]!)) (qs.map fun (i, x) => (i, a.eval x)).toList = some vs' := by
      rw [← hsz]
      simpa [madeCells] using g1
    rw [← hk2] at g1'
    have e2 : (qs.map fun (i, x) => (i, a.eval x)).toList = List.map (fun x => (x.fst, a.eval x.snd)) qs.toList := by simp
    rw [e2] at g1'
    by_cases hn : n = 0
    · subst hn
      have e1 : ((Array.range (0 * i.size)).map (z.cells[· % z.cells.size]!)) = #[] := by simp
      have e3 : Array.map (fun _ : Nat => (default : Value)) (Array.range 0) = #[] := by rw [Array.range_zero', Array.map_empty]
      rw [e1] at g1'
      simp [Instr.buildSlice, run_underlying ht, Go.sizeOf, typeInfo, hi, newRow, e3, g1']
    · have hn' : ¬ (n * i.size = 0) := by
        have := Nat.mul_pos (show 0 < n by omega) hk
        omega
      simp [Instr.buildSlice, run_underlying ht, Go.sizeOf, typeInfo, hi, newRow, hroom', zeroValue, hz, hn', g1']
  have hN := newed_alloc w vs' e
  have hvl : vs'.size = n * zero.length := by rw [← hcl, ← hlen]; simp
  obtain ⟨q1, q2, q3, q4, q5⟩ := new_slice (Y := Z) (k := zero.length) (n := n) (cap := n) hN hR1 hF1 (fun b => by have := g3 b; have := hle1 b; have := c.one b; dsimp only at *; omega) g2 (storable_all g2 hs) (fun j hj => by rw [← Array.getElem?_toList]; exact List.getElem?_eq_getElem hj) (by simp) (by omega) hcl (Nat.le_refl _)
  obtain ⟨F', ms', X', p1, p2, p3, p4, p5, p6⟩ := madeV_ok h q1 q2 q5 q3
  refine Does.run (by simp only [execOp, ho]; rw [Sem.run_bind, hrun]; rfl) p1 (fun b => Nat.le_trans (p6 b) (q5 b)) p5 ?_ (hm1.trans p4) p2
  have hE2 : Ext w F (mkLoc w rows ms) (fun b => X b + 0) w F1 (mkLoc w rows1 ms1) (fun b => X1 b + Z b) := hE1.count (fun b hb => hb) (fun b hb => by
    left
    have := g3 b
    show X1 b + Y1 b ≠ 0
    dsimp only at *
    omega)
  exact ((hE2.trans q4).trans p3).count (fun b hb => by simpa using hb) (fun b hb => .inl hb)
end
end Av
namespace Av
open Go

def hole (cells : List D) (off k : Nat) : List D := cells.take off ++ List.replicate k .undef ++ cells.drop (off + k)

theorem RelL.undefs {w F fm L} : ∀ {n : Nat} {us : List Value}, us.length = n → RelL w F fm L (List.replicate n .undef) us (fun _ => 0)
  | 0, us, h => by
    have : us = [] := List.eq_nil_of_length_eq_zero h
    subst this
    exact RelL.nil
  | n + 1, u :: us, h => (RelL.cons Rel.undef0 (RelL.undefs (by simpa using h))).congr fun _ => rfl

theorem RelL.hole {w F fm L} {cells : List D} {vs : List Value} {X : Cnt} {off k : Nat} (h : RelL w F fm L cells vs X) (hl : off + k ≤ cells.length) :
    ∃ A B, RelL w F fm L (Av.hole cells off k) vs A ∧ RelL w F fm L (Av.cut cells off k) (cutL vs off k) B ∧ ∀ b, X b = A b + B b := by
  have hlen := h.length
  obtain ⟨X1, X2, h1, h2, hX⟩ := h.take_drop off
  obtain ⟨Y1, Y2, h3, h4, hY⟩ := h2.take_drop k
  refine ⟨fun b => X1 b + 0 + Y2 b, Y1, ?_, h3, fun b => by show X b = X1 b + 0 + Y2 b + Y1 b; rw [hX, hY]; omega⟩
  have e : vs = vs.take off ++ (vs.drop off).take k ++ (vs.drop off).drop k := by
    rw [List.append_assoc, List.take_append_drop, List.take_append_drop]
  rw [e]
  have e2 : Av.hole cells off k = cells.take off ++ List.replicate k .undef ++ (cells.drop off).drop k := by rw [List.drop_drop]; rfl
  rw [e2]
  exact (h1.append (RelL.undefs (by simp; omega))).append h4

theorem hole_length {cells : List D} {off k : Nat} (h : off + k ≤ cells.length) : (hole cells off k).length = cells.length := by simp [hole]; omega

theorem hole_get {cells : List D} {off k : Nat} (h : off + k ≤ cells.length) (i : Nat) : (hole cells off k)[i]? = cells[i]? ∨ (hole cells off k)[i]? = some .undef := by
  unfold hole
  by_cases h1 : i < off
  · left
    rw [List.getElem?_append_left (by simp; omega), List.getElem?_append_left (by simp; omega), List.getElem?_take_of_lt h1]
  · by_cases h2 : i < off + k
    · right
      rw [List.getElem?_append_left (by simp; omega), List.getElem?_append_right (by simp; omega), List.getElem?_replicate]
      simp; omega
    · left
      rw [List.getElem?_append_right (by simp; omega), List.getElem?_drop]
      congr 1
      simp; omega

theorem navC_hole {w : World} {cells : List D} {bb : Nat × Nat} {off k : Nat} (h : off + k ≤ cells.length) : ∀ q l, navC w (hole cells off k) bb q = some l → navC w cells bb q = some l := by
  intro q l hl
  match q, hl with
  | [], hl => simp [navC] at hl
  | i :: q, hl =>
    rw [navC_cons] at hl ⊢
    rcases hole_get h i with h1 | h1
    · rw [h1] at hl; exact hl
    · rw [h1] at hl
      cases hw : w.cell? ⟨bb.1, bb.2 + i, none⟩ with
      | none => simp [hw] at hl
      | some v => simp [hw, navNode] at hl

def takenRows (rows : Rows) (r : Nat) (path : List Nat) (row : Row) (cells' : List D) : Rows :=
  match path with
  | [] => rows.set r (some { row with cells := cells' })
  | p :: ps => rows.set r (some { row with cells := setNav row.cells (p :: ps) cells' })

theorem take_rows {w : World} {F : FZ} {fm : Nat → Nat} {rows : Rows} {ms : Ms} {X : Cnt} {r : Nat} {path : List Nat} {ver off k : Nat} {row : Row} {cells : List D} (hc : cellsAt rows r path ver = some (row, cells)) (hk : 0 < k) (hl : off + k ≤ cells.length) (hpub : row.pub = false)
    (hR : RowsRel w F fm rows ms X) :
    ∃ ms' X' B vs b base, locAt w rows ms r path ver = some (some (b, base)) ∧ (∀ j (h : j < vs.length), w.cell? ⟨b, base + j, none⟩ = some vs[j]) ∧ vs.length = cells.length ∧ RowsRel w F fm (takenRows rows r path row (hole cells off k)) ms' X' ∧
      RelL w F fm L0 (cut cells off k) (cutL vs off k) B ∧ (∀ b, X b = X' b + B b) ∧ LocLe (mkLoc w rows ms) (mkLoc w (takenRows rows r path row (hole cells off k)) ms') ∧ MsLe ms ms' := by
  match path, hc with
  | [], hc =>
    obtain ⟨row', hr, he⟩ := cellsAt_top hc
    simp only [Prod.mk.injEq] at he
    obtain ⟨rfl, rfl⟩ := he
    obtain ⟨m, X1, X2, hm, hv, hat, hXs, hrest⟩ := hR.take hr
    obtain ⟨m1, m2⟩ := m
    match m1, hat with
    | none, hat => rw [hat.1] at hl; simp at hl; omega
    | some (b, base), hat =>
      obtain ⟨vs, Xc, ho, hbk, hrl, hFb, hX1⟩ := hat
      obtain ⟨A, B, h1, h2, hAB⟩ := hrl.hole hl
      refine ⟨ms.set r (some (b, base), row.ver), fun c => (A c + if c = b then 1 else 0) + X2 c, B, vs, b, base, by simp [locAt, theRow_of hr, hm], hbk.cells, hrl.length, ?_, h2, fun c => ?_, ?_, MsLe.set hm _⟩
      · refine hrest.put (row := { row with cells := hole row.cells off k }) hm ⟨vs, A, ho, hbk, h1, fun o hf => ?_, fun c => rfl⟩
        have := (hFb o hf).1
        rw [hpub] at this
        simp at this
      · show X c = (A c + if c = b then 1 else 0) + X2 c + B c
        rw [hXs, hX1, hAB]; omega
      · exact mkLoc_set hR hr hm (Nat.le_refl _) hv fun _ bb p ps l _ hq => navC_hole hl _ _ hq
  | p :: ps, hc =>
    obtain ⟨row', hr, hvv, hn, he⟩ := cellsAt_nest hc
    simp only at he hn
    subst he
    obtain ⟨m, X1, X2, hm, hv, hat, hXs, hrest⟩ := hR.take hr
    obtain ⟨m1, m2⟩ := m
    match m1, hat with
    | none, hat => rw [hat.1] at hn; simp [nav] at hn
    | some (b, base), hat =>
      obtain ⟨vs, Xc, ho, hbk, hrl, hFb, hX1⟩ := hat
      obtain ⟨k2, n2, v2, Z1, R, g1, g2, g3, g4, g5, g6⟩ := nav_focus (p :: ps) row.cells vs Xc (b, base) cells (by simp) hrl hbk.cells hn
      have hnv : navC w row.cells (b, base) (p :: ps) = some v2 := by
        have := g3 []
        rw [List.append_nil] at this
        rw [this]; rfl
      unfold Rel at g1
      obtain ⟨hl1, a, cap, hva, hcap, h | ⟨ad, vs1, Y, ha, hs, ho1, hb1, hrl1, hF1, hX2⟩⟩ := g1
      · rw [h.1] at hl; simp at hl; omega
      subst ha hva
      have hcap0 : 0 < cap := by
        rcases Nat.eq_zero_or_pos n2 with h0 | h0
        · subst h0; simp at hl1; rw [hl1] at hl; simp at hl; omega
        · omega
      obtain ⟨A, B, h1, h2, hAB⟩ := hrl1.hole hl
      have hnew : Rel w F fm L0 (.slice true k2 n2 (hole cells off k)) (.slice (some ad) n2 cap) (fun c => A c + if c = ad.block then 1 else 0) := by
        unfold Rel
        exact ⟨by rw [hole_length hl]; exact hl1, some ad, cap, rfl, hcap, .inr ⟨ad, vs1, A, rfl, hs, ho1, hb1, h1, hF1, fun _ => rfl⟩⟩
      refine ⟨ms.set r (some (b, base), row.ver), fun c => (((A c + if c = ad.block then 1 else 0) + R c) + if c = b then 1 else 0) + X2 c, B, vs1, ad.block, ad.off, by rw [hvv]; simp [locAt, theRow_of hr, hm, hnv, locV_some hcap0], hb1.cells, hrl1.length, ?_, h2, fun c => ?_, ?_, MsLe.set hm _⟩
      · refine hrest.put (row := { row with cells := setNav row.cells (p :: ps) (hole cells off k) }) hm ⟨vs, fun c => (A c + if c = ad.block then 1 else 0) + R c, ho, hbk, ?_, fun o hf => ?_, fun c => rfl⟩
        · show RelL w F fm L0 (setNav row.cells (p :: ps) (hole cells off k)) vs _
          rw [g4]
          exact g5 w F _ _ (Keep.refl _ _ _) hnew
        · have := (hFb o hf).1
          rw [hpub] at this
          simp at this
      · show X c = (((A c + if c = ad.block then 1 else 0) + R c) + if c = b then 1 else 0) + X2 c + B c
        rw [hXs, hX1, g2, hX2, hAB]; omega
      · refine mkLoc_set hR hr hm (Nat.le_refl _) hv fun _ bb p' ps' l hbb hq => ?_
        have hbb' : bb = (b, base) := by simpa using hbb.symm
        subst hbb'
        rw [show ({ row with cells := setNav row.cells (p :: ps) (hole cells off k) } : Row).cells = setNav row.cells (p :: ps) (hole cells off k) from rfl, g4] at hq
        refine g6 w _ (fun _ _ => rfl) hbk.cells (fun q l hq => ?_) _ _ hq
        cases q with
        | nil => simpa [navNode] using hq
        | cons i q =>
          simp only [navNode] at hq ⊢
          exact navC_hole hl _ _ hq

section
variable {P : Program} {fm : Nat → Nat} {o : Oper} {a : Act} {w : World} {F : FZ} {rows rows' : Rows} {ms : Ms} {X : Cnt} {sl : List Nat} {tms : List (Option Nat)} {vars ts : List D} {res : D}

theorem does_take (c : Cx w F fm rows ms X sl tms vars ts a) {agg : Bool} {k : Nat} {x : Opd} {x' : Operand} {t : TypeId} (ho : o.op = .load t x') (hx : chkO fm sl tms x x' = true) (ha : aggT P t = some agg) (hk : sizeT P t = some k) (hk0 : 0 < k)
    (h : takeCells rows agg k (opd vars ts x) = some (res, rows')) : Does P fm o a w F rows ms X res rows' := by
  have h1 := c.opd hx
  unfold takeCells at h
  split at h
  · rename_i cells off hd
    obtain ⟨v, hv, he⟩ := map_some h
    simp only [Prod.mk.injEq] at he
    obtain ⟨rfl, rfl⟩ := he
    rw [← hd] at hv
    obtain ⟨u, q1, q2⟩ := loadV_ok (P := P) ha hk hk0 hv h1 c.rel
    exact c.pure (v := u) (by simp [execOp, ho, q1]) q2
  · rename_i r path ver off hd
    rw [hd] at h1
    split at h
    case h_1 => simp at h
    rename_i row cells hc
    split at h
    case isFalse => simp at h
    rename_i hcond
    obtain ⟨hlen, hpub⟩ := hcond
    obtain ⟨ms1, X1, B, vs, b, base, hloc, hcell, hvl, hR1, hB, hXB, hL1, hm1⟩ := take_rows hc hk0 hlen hpub c.rel
    unfold Rel at h1
    obtain ⟨_, hrn, hver, ad, he, hadr⟩ := h1
    have had := hadr b base hloc
    subst had
    have hcut : ∀ j (hj : j < (cutL vs off k).length), w.cell? ⟨b, base + off + j, none⟩ = some (cutL vs off k)[j] := fun j hj => by
      obtain ⟨q1, q2⟩ := cutL_get hj
      rw [q2, Nat.add_assoc]
      exact hcell _ q1
    have hclen : (cutL vs off k).length = k := cutL_length (by omega)
    have fin : ∀ (d : D) (v : Value), (Instr.loadAt t (.pointer (some ⟨b, base + off, none⟩))).run P w = .ok v w → Rel w F fm L0 d v B → madeV .own (takenRows rows r path row (hole cells off k)) d = some (res, rows') → Does P fm o a w F rows ms X res rows' := fun d v hv hdv hmv => by
      obtain ⟨F', ms', X', p1, p2, p3, p4, p5, p6⟩ := madeV_ok hmv hR1 hdv (fun b => by have := hXB b; have := c.one b; omega) c.fok
      refine Does.run (by simp only [execOp, ho, he]; rw [Sem.run_bind, hv]; rfl) p1 (fun b => by have := p6 b; have := hXB b; have := c.one b; omega) p5 ?_ (hm1.trans p4) p2
      have hE : Ext w F (mkLoc w rows ms) X w F (mkLoc w (takenRows rows r path row (hole cells off k)) ms1) (fun b => X1 b + B b) := Ext.still (fun _ _ h => h) (fun _ _ h => .inl h) (fun b hb => by have := hXB b; have hb : X1 b + B b ≠ 0 := hb; omega) hL1
      exact hE.trans p3
    simp only at h
    have hld := run_loadVar (P := P) (w := w) ha hk hclen (vs := cutL vs off k) (b := b) (o := base + off)
    cases agg with
    | true =>
      simp only [if_true] at h
      exact fin _ (.agg (cutL vs off k).toArray) (by simp only [Instr.loadAt, Instr.sureAddr, Sem.run_bind, Sem.run_pure, Result.andThen_ok]; exact hld (by simp) hcut) (by unfold Rel; exact ⟨_, rfl, hB⟩) h
    | false =>
      simp only [Bool.false_eq_true, if_false] at h
      split at h
      case isFalse => simp at h
      rename_i hk1
      subst hk1
      split at h
      case h_2 => simp at h
      rename_i d hd1
      have hlt : off < vs.length := by omega
      have e : (cutL vs off 1).headD undef = vs[off] := by simp [cutL, List.headD_eq_head?_getD, List.head?_take, List.head?_drop, hlt]
      have e1 : cutL vs off 1 = [vs[off]] := by
        simp [cutL]
        rw [List.drop_eq_getElem_cons hlt]; rfl
      have hlt2 : off < cells.length := by omega
      have e2 : cut cells off 1 = [d] := by
        rw [List.getElem?_eq_getElem hlt2] at hd1
        simp only [Option.some.injEq] at hd1
        simp [cut]
        rw [List.drop_eq_getElem_cons hlt2, hd1]; rfl
      rw [e1, e2] at hB
      unfold RelL at hB
      obtain ⟨v', vs', B1, B2, hvv, hdv, hnil, hBB⟩ := hB
      unfold RelL at hnil
      simp only [List.cons.injEq] at hvv
      obtain ⟨rfl, _⟩ := hvv
      exact fin d vs[off] (by simp only [Instr.loadAt, Instr.sureAddr, Sem.run_bind, Sem.run_pure, Result.andThen_ok]; have := hld (by simp) hcut; rw [e] at this; simpa using this) (hdv.congr fun b => by have := hBB b; have h0 : B2 b = 0 := hnil.2 b; omega) h
  · simp at h
end
end Av
namespace Av
open Go

/-- Rows bear other numbers: L' says no more of 'f r' than L of r. -/
def LocMap (f : Nat → Nat) (L L' : Loc) : Prop :=
  ∀ r, L.ok r → L'.ok (f r) ∧ L.cur r ≤ L'.cur (f r) ∧ ∀ p n l, (p ≠ [] → n ≤ L.cur r) → L'.at_ (f r) p n = some l → L.at_ r p n = some l

theorem LocMap.trans {f g : Nat → Nat} {A B C : Loc} (h : LocMap f A B) (k : LocMap g B C) : LocMap (fun r => g (f r)) A C := fun r hr =>
  have h1 := h r hr
  have k1 := k (f r) h1.1
  ⟨k1.1, Nat.le_trans h1.2.1 k1.2.1, fun p n l hn hl => h1.2.2 p n l hn (k1.2.2 p n l (fun hp => Nat.le_trans (hn hp) h1.2.1) hl)⟩
theorem LocLe.map {A B : Loc} (h : LocLe A B) : LocMap (fun r => r) A B := fun r hr => ⟨h.1 r hr, h.2.1 r hr, fun p n l hn hl => h.2.2 r p n l hr hn hl⟩
theorem LocMap.le {f : Nat → Nat} {A B : Loc} (h : LocMap f A B) (hf : ∀ r, A.ok r → f r = r) : LocLe A B :=
  ⟨fun r hr => by have := (h r hr).1; rw [hf r hr] at this; exact this, fun r hr => by have := (h r hr).2.1; rw [hf r hr] at this; exact this,
   fun r p n l hr hn hl => (h r hr).2.2 p n l hn (by rw [hf r hr]; exact hl)⟩

mutual
theorem Rel.map {w : World} {F : FZ} {fm : Nat → Nat} {f : Nat → Nat} : ∀ {L L' : Loc} {d : D} {v : Value} {X : Cnt}, LocMap f L L' → Rel w F fm L d v X → Rel w F fm L' (mapD f d) v X
  | _, _, .undef, _, _, _, h => by unfold mapD; unfold Rel at h ⊢; exact h
  | _, _, .bool _, _, _, _, h => by unfold mapD; unfold Rel at h ⊢; exact h
  | _, _, .int _ _, _, _, _, h => by unfold mapD; unfold Rel at h ⊢; exact h
  | _, _, .str _, _, _, _, h => by unfold mapD; unfold Rel at h ⊢; exact h
  | _, _, .slice false k n cells, _, X, _, h => by unfold mapD; unfold Rel at h ⊢; exact h
  | _, _, .slice true k n cells, _, X, _, h => by unfold mapD; unfold Rel at h ⊢; exact h
  | _, _, .ref r path ver off n k, _, X, hL, h => by
    unfold mapD
    unfold Rel at h ⊢
    obtain ⟨hz, hrn, hver, a, cap, hv, hc, h⟩ := h
    obtain ⟨h1, h2, h3⟩ := hL r hrn
    exact ⟨hz, h1, fun hp => Nat.le_trans (hver hp) h2, a, cap, hv, hc, fun loc hloc => h loc (h3 _ _ _ hver hloc)⟩
  | _, _, .addr r path ver off, _, X, hL, h => by
    unfold mapD
    unfold Rel at h ⊢
    obtain ⟨hz, hrn, hver, a, hv, h⟩ := h
    obtain ⟨h1, h2, h3⟩ := hL r hrn
    exact ⟨hz, h1, fun hp => Nat.le_trans (hver hp) h2, a, hv, fun b base hloc => h b base (h3 _ _ _ hver hloc)⟩
  | _, _, .faddr cells off, _, X, _, h => by unfold mapD; unfold Rel at h ⊢; exact h
  | _, _, .agg cells, _, X, hL, h => by
    unfold mapD
    unfold Rel at h ⊢
    obtain ⟨vs, hv, hr⟩ := h
    exact ⟨vs, hv, RelL.map hL hr⟩
  | _, _, .tup cells, _, X, hL, h => by
    unfold mapD
    unfold Rel at h ⊢
    obtain ⟨vs, hv, hr⟩ := h
    exact ⟨vs, hv, RelL.map hL hr⟩
  | _, _, .fn g cells, _, X, hL, h => by
    unfold mapD
    unfold Rel at h ⊢
    obtain ⟨hz, vs, hv, hr⟩ := h
    exact ⟨hz, vs, hv, RelL.map hL hr⟩
theorem RelL.map {w : World} {F : FZ} {fm : Nat → Nat} {f : Nat → Nat} : ∀ {L L' : Loc} {d : List D} {v : List Value} {X : Cnt}, LocMap f L L' → RelL w F fm L d v X → RelL w F fm L' (mapL f d) v X
  | _, _, [], _, _, _, h => by unfold mapL; unfold RelL at h ⊢; exact h
  | _, _, d :: ds, _, X, hL, h => by
    unfold mapL
    unfold RelL at h ⊢
    obtain ⟨v, vs', X1, X2, hvs, h1, h2, hX⟩ := h
    exact ⟨v, vs', X1, X2, hvs, Rel.map hL h1, RelL.map hL h2, hX⟩
end

def Loc.on (L : Loc) (S : Nat → Prop) : Loc := ⟨L.at_, L.cur, fun r => L.ok r ∧ S r⟩
theorem Loc.on_le (L : Loc) (S : Nat → Prop) : LocLe (L.on S) L := ⟨fun _ h => h.1, fun _ _ => Nat.le_refl _, fun _ _ _ _ _ _ h => h⟩

mutual
/-- The rows that a tree speaks of. -/
def idsIn (S : Nat → Prop) : D → Prop
  | .ref r _ _ _ _ _ => S r
  | .addr r _ _ _ => S r
  | .agg vs => idsInL S vs
  | .tup vs => idsInL S vs
  | .fn _ vs => idsInL S vs
  | .undef => True
  | .bool _ => True
  | .int _ _ => True
  | .str _ => True
  | .slice _ _ _ _ => True
  | .faddr _ _ => True
def idsInL (S : Nat → Prop) : List D → Prop
  | [] => True
  | d :: ds => idsIn S d ∧ idsInL S ds
end

mutual
theorem Rel.ok {w : World} {F : FZ} {fm : Nat → Nat} : ∀ {L : Loc} {d : D} {v : Value} {X : Cnt}, Rel w F fm L d v X → idsIn L.ok d
  | _, .undef, _, _, _ => by unfold idsIn; trivial
  | _, .bool _, _, _, _ => by unfold idsIn; trivial
  | _, .int _ _, _, _, _ => by unfold idsIn; trivial
  | _, .str _, _, _, _ => by unfold idsIn; trivial
  | _, .slice _ _ _ _, _, _, _ => by unfold idsIn; trivial
  | _, .faddr _ _, _, _, _ => by unfold idsIn; trivial
  | _, .ref .., _, _, h => by unfold Rel at h; unfold idsIn; exact h.2.1
  | _, .addr .., _, _, h => by unfold Rel at h; unfold idsIn; exact h.2.1
  | _, .agg _, _, _, h => by unfold Rel at h; unfold idsIn; obtain ⟨_, _, hr⟩ := h; exact RelL.ok hr
  | _, .tup _, _, _, h => by unfold Rel at h; unfold idsIn; obtain ⟨_, _, hr⟩ := h; exact RelL.ok hr
  | _, .fn _ _, _, _, h => by unfold Rel at h; unfold idsIn; obtain ⟨_, _, _, hr⟩ := h; exact RelL.ok hr
theorem RelL.ok {w : World} {F : FZ} {fm : Nat → Nat} : ∀ {L : Loc} {d : List D} {v : List Value} {X : Cnt}, RelL w F fm L d v X → idsInL L.ok d
  | _, [], _, _, _ => by unfold idsInL; trivial
  | _, d :: ds, _, _, h => by
    unfold RelL at h
    obtain ⟨v, vs', X1, X2, _, h1, h2, _⟩ := h
    unfold idsInL
    exact ⟨Rel.ok h1, RelL.ok h2⟩
end

mutual
theorem idsIn.mono {S T : Nat → Prop} (h : ∀ r, S r → T r) : ∀ {d : D}, idsIn S d → idsIn T d
  | .undef, _ => by unfold idsIn; trivial
  | .bool _, _ => by unfold idsIn; trivial
  | .int _ _, _ => by unfold idsIn; trivial
  | .str _, _ => by unfold idsIn; trivial
  | .slice _ _ _ _, _ => by unfold idsIn; trivial
  | .faddr _ _, _ => by unfold idsIn; trivial
  | .ref .., k => by unfold idsIn at k ⊢; exact h _ k
  | .addr .., k => by unfold idsIn at k ⊢; exact h _ k
  | .agg _, k => by unfold idsIn at k ⊢; exact idsInL.mono h k
  | .tup _, k => by unfold idsIn at k ⊢; exact idsInL.mono h k
  | .fn _ _, k => by unfold idsIn at k ⊢; exact idsInL.mono h k
theorem idsInL.mono {S T : Nat → Prop} (h : ∀ r, S r → T r) : ∀ {d : List D}, idsInL S d → idsInL T d
  | [], _ => by unfold idsInL; trivial
  | d :: ds, k => by unfold idsInL at k ⊢; exact ⟨idsIn.mono h k.1, idsInL.mono h k.2⟩
end

mutual
theorem within_iff {l : List Nat} : ∀ {d : D}, within l d = true ↔ idsIn (· ∈ l) d
  | .undef => by simp [within, idsIn]
  | .bool _ => by simp [within, idsIn]
  | .int _ _ => by simp [within, idsIn]
  | .str _ => by simp [within, idsIn]
  | .slice _ _ _ _ => by simp [within, idsIn]
  | .faddr _ _ => by simp [within, idsIn]
  | .ref .. => by simp [within, idsIn]
  | .addr .. => by simp [within, idsIn]
  | .agg vs => by simp only [within, idsIn]; exact withinL_iff
  | .tup vs => by simp only [within, idsIn]; exact withinL_iff
  | .fn _ vs => by simp only [within, idsIn]; exact withinL_iff
theorem withinL_iff {l : List Nat} : ∀ {d : List D}, withinL l d = true ↔ idsInL (· ∈ l) d
  | [] => by simp [withinL, idsInL]
  | d :: ds => by simp only [withinL, idsInL, Bool.and_eq_true]; exact and_congr within_iff withinL_iff
end

mutual
theorem Rel.on {w : World} {F : FZ} {fm : Nat → Nat} {S : Nat → Prop} : ∀ {L : Loc} {d : D} {v : Value} {X : Cnt}, idsIn S d → Rel w F fm L d v X → Rel w F fm (L.on S) d v X
  | _, .undef, _, _, _, h => by unfold Rel at h ⊢; exact h
  | _, .bool _, _, _, _, h => by unfold Rel at h ⊢; exact h
  | _, .int _ _, _, _, _, h => by unfold Rel at h ⊢; exact h
  | _, .str _, _, _, _, h => by unfold Rel at h ⊢; exact h
  | _, .slice false _ _ _, _, _, _, h => by unfold Rel at h ⊢; exact h
  | _, .slice true _ _ _, _, _, _, h => by unfold Rel at h ⊢; exact h
  | _, .faddr _ _, _, _, _, h => by unfold Rel at h ⊢; exact h
  | _, .ref .., _, _, k, h => by unfold Rel at h ⊢; unfold idsIn at k; exact ⟨h.1, ⟨h.2.1, k⟩, h.2.2⟩
  | _, .addr .., _, _, k, h => by unfold Rel at h ⊢; unfold idsIn at k; exact ⟨h.1, ⟨h.2.1, k⟩, h.2.2⟩
  | _, .agg _, _, _, k, h => by unfold Rel at h ⊢; unfold idsIn at k; obtain ⟨vs, hv, hr⟩ := h; exact ⟨vs, hv, RelL.on k hr⟩
  | _, .tup _, _, _, k, h => by unfold Rel at h ⊢; unfold idsIn at k; obtain ⟨vs, hv, hr⟩ := h; exact ⟨vs, hv, RelL.on k hr⟩
  | _, .fn _ _, _, _, k, h => by unfold Rel at h ⊢; unfold idsIn at k; obtain ⟨hz, vs, hv, hr⟩ := h; exact ⟨hz, vs, hv, RelL.on k hr⟩
theorem RelL.on {w : World} {F : FZ} {fm : Nat → Nat} {S : Nat → Prop} : ∀ {L : Loc} {d : List D} {v : List Value} {X : Cnt}, idsInL S d → RelL w F fm L d v X → RelL w F fm (L.on S) d v X
  | _, [], _, _, _, h => by unfold RelL at h ⊢; exact h
  | _, d :: ds, _, _, k, h => by
    unfold RelL at h ⊢
    unfold idsInL at k
    obtain ⟨v, vs', X1, X2, hvs, h1, h2, hX⟩ := h
    exact ⟨v, vs', X1, X2, hvs, Rel.on k.1 h1, RelL.on k.2 h2, hX⟩
end

theorem Rel.mask {w : World} {F : FZ} {fm : Nat → Nat} {L L' : Loc} {l : List Nat} {d : D} {v : Value} (hL : LocMap (fun r => l.idxOf r) (L.on (· ∈ l)) L') (h : Rel w F fm L d v (fun _ => 0)) : Rel w F fm L' (maskD l d) v (fun _ => 0) := by
  unfold maskD
  split
  · rename_i hw; exact (h.on (within_iff.1 hw)).map hL
  · exact Rel.undef0
theorem RelL.mask {w : World} {F : FZ} {fm : Nat → Nat} {L L' : Loc} {l : List Nat} (hL : LocMap (fun r => l.idxOf r) (L.on (· ∈ l)) L') : ∀ {d : List D} {v : List Value}, RelL w F fm L d v (fun _ => 0) → RelL w F fm L' (d.map (maskD l)) v (fun _ => 0)
  | [], _, h => by unfold RelL at h; simp only [List.map_nil]; unfold RelL; exact h
  | d :: ds, _, h => by
    unfold RelL at h
    obtain ⟨v, vs', X1, X2, rfl, h1, h2, hX⟩ := h
    have z1 : ∀ b, X1 b = 0 := fun b => by have h : 0 = X1 b + X2 b := hX b; omega
    have z2 : ∀ b, X2 b = 0 := fun b => by have h : 0 = X1 b + X2 b := hX b; omega
    simp only [List.map_cons]
    exact (RelL.cons (Rel.mask hL (h1.congr fun b => (z1 b).symm)) (RelL.mask hL (h2.congr fun b => (z2 b).symm))).congr fun _ => rfl

/-! ### The rows that are spoken of -/
theorem addId_nodup {l : List Nat} {r : Nat} (h : l.Nodup) : (addId l r).Nodup := by
  unfold addId
  split
  · exact h
  · rename_i hr
    have hr : r ∉ l := by simpa using hr
    rw [List.nodup_append]
    exact ⟨h, by simp, fun a ha b hb => by simp at hb; subst hb; exact fun e => hr (e ▸ ha)⟩
mutual
theorem ids_nodup : ∀ {d : D} {l : List Nat}, l.Nodup → (ids l d).Nodup
  | .undef, _, h => by unfold ids; exact h
  | .bool _, _, h => by unfold ids; exact h
  | .int _ _, _, h => by unfold ids; exact h
  | .str _, _, h => by unfold ids; exact h
  | .slice _ _ _ _, _, h => by unfold ids; exact h
  | .faddr _ _, _, h => by unfold ids; exact h
  | .ref .., _, h => by unfold ids; exact addId_nodup h
  | .addr .., _, h => by unfold ids; exact addId_nodup h
  | .agg _, _, h => by unfold ids; exact idsL_nodup h
  | .tup _, _, h => by unfold ids; exact idsL_nodup h
  | .fn _ _, _, h => by unfold ids; exact idsL_nodup h
theorem idsL_nodup : ∀ {d : List D} {l : List Nat}, l.Nodup → (idsL l d).Nodup
  | [], _, h => by unfold idsL; exact h
  | d :: ds, _, h => by unfold idsL; exact idsL_nodup (ids_nodup h)
end
theorem addId_ok {l : List Nat} {r : Nat} {S : Nat → Prop} (h : ∀ x ∈ l, S x) (hr : S r) : ∀ x ∈ addId l r, S x := by
  unfold addId
  split
  · exact h
  · intro x hx
    simp at hx
    rcases hx with hx | hx
    · exact h x hx
    · subst hx; exact hr
mutual
theorem ids_ok {S : Nat → Prop} : ∀ {d : D} {l : List Nat}, (∀ x ∈ l, S x) → idsIn S d → ∀ x ∈ ids l d, S x
  | .undef, _, h, _ => by unfold ids; exact h
  | .bool _, _, h, _ => by unfold ids; exact h
  | .int _ _, _, h, _ => by unfold ids; exact h
  | .str _, _, h, _ => by unfold ids; exact h
  | .slice _ _ _ _, _, h, _ => by unfold ids; exact h
  | .faddr _ _, _, h, _ => by unfold ids; exact h
  | .ref .., _, h, k => by unfold ids; unfold idsIn at k; exact addId_ok h k
  | .addr .., _, h, k => by unfold ids; unfold idsIn at k; exact addId_ok h k
  | .agg _, _, h, k => by unfold ids; unfold idsIn at k; exact idsL_ok h k
  | .tup _, _, h, k => by unfold ids; unfold idsIn at k; exact idsL_ok h k
  | .fn _ _, _, h, k => by unfold ids; unfold idsIn at k; exact idsL_ok h k
theorem idsL_ok {S : Nat → Prop} : ∀ {d : List D} {l : List Nat}, (∀ x ∈ l, S x) → idsInL S d → ∀ x ∈ idsL l d, S x
  | [], _, h, _ => by unfold idsL; exact h
  | d :: ds, _, h, k => by unfold idsL; unfold idsInL at k; exact idsL_ok (ids_ok h k.1) k.2
end
theorem addId_pre (l : List Nat) (r : Nat) : ∃ t, addId l r = l ++ t := by
  unfold addId; split
  · exact ⟨[], by simp⟩
  · exact ⟨[r], rfl⟩
mutual
theorem ids_pre : ∀ (d : D) (l : List Nat), ∃ t, ids l d = l ++ t
  | .undef, _ => ⟨[], by simp [ids]⟩
  | .bool _, _ => ⟨[], by simp [ids]⟩
  | .int _ _, _ => ⟨[], by simp [ids]⟩
  | .str _, _ => ⟨[], by simp [ids]⟩
  | .slice _ _ _ _, _ => ⟨[], by simp [ids]⟩
  | .faddr _ _, _ => ⟨[], by simp [ids]⟩
  | .ref .., _ => by unfold ids; exact addId_pre _ _
  | .addr .., _ => by unfold ids; exact addId_pre _ _
  | .agg _, _ => by unfold ids; exact idsL_pre _ _
  | .tup _, _ => by unfold ids; exact idsL_pre _ _
  | .fn _ _, _ => by unfold ids; exact idsL_pre _ _
theorem idsL_pre : ∀ (d : List D) (l : List Nat), ∃ t, idsL l d = l ++ t
  | [], _ => ⟨[], by simp [idsL]⟩
  | d :: ds, l => by
    unfold idsL
    obtain ⟨t, ht⟩ := ids_pre d l
    obtain ⟨u, hu⟩ := idsL_pre ds (ids l d)
    exact ⟨t ++ u, by rw [hu, ht, List.append_assoc]⟩
end

/-! ### Some of the rows -/
def writeL {α : Type} (xs : List α) : List Nat → List α → List α
  | i :: is, y :: ys => writeL (xs.set i y) is ys
  | _, _ => xs
theorem writeBack_eq : ∀ (l : List Nat) (rows back : Rows), writeBack rows l back = writeL rows l back
  | [], _, _ => by simp [writeBack, writeL]
  | _ :: _, _, [] => by simp [writeBack, writeL]
  | i :: is, rows, x :: xs => by simp only [writeBack, writeL]; exact writeBack_eq is _ xs
theorem writeL_length {α : Type} : ∀ (l : List Nat) (xs ys : List α), (writeL xs l ys).length = xs.length
  | [], _, _ => by simp [writeL]
  | _ :: _, _, [] => by simp [writeL]
  | i :: is, xs, y :: ys => by simp only [writeL]; rw [writeL_length is]; simp
theorem writeL_out {α : Type} {r : Nat} : ∀ (l : List Nat) (xs ys : List α), r ∉ l → (writeL xs l ys)[r]? = xs[r]?
  | [], _, _, _ => by simp [writeL]
  | _ :: _, _, [], _ => by simp [writeL]
  | i :: is, xs, y :: ys, h => by
    simp only [List.mem_cons, not_or] at h
    simp only [writeL]
    rw [writeL_out is _ ys h.2, List.getElem?_set]
    simp [Ne.symm h.1]
theorem writeL_in {α : Type} {r : Nat} {y : α} : ∀ (l : List Nat) (xs ys : List α) (i : Nat), l.Nodup → l[i]? = some r → ys[i]? = some y → r < xs.length → (writeL xs l ys)[r]? = some y
  | [], _, _, _, _, h, _, _ => by simp at h
  | _ :: _, _, [], _, _, _, h, _ => by simp at h
  | j :: is, xs, z :: ys, 0, hn, h, hy, hr => by
    simp only [List.getElem?_cons_zero, Option.some.injEq] at h hy
    subst h hy
    simp only [writeL]
    rw [writeL_out is _ ys (List.nodup_cons.1 hn).1]
    simp [hr]
  | j :: is, xs, z :: ys, i + 1, hn, h, hy, hr => by
    simp only [List.getElem?_cons_succ] at h hy
    simp only [writeL]
    exact writeL_in is _ ys i (List.nodup_cons.1 hn).2 h hy (by simpa using hr)

def subM (ms : Ms) (l : List Nat) : Ms := l.map fun r => ms.getD r (none, 0)
def clear (rows : Rows) : List Nat → Rows
  | [] => rows
  | i :: is => clear (rows.set i none) is
theorem clear_length : ∀ (l : List Nat) (rows : Rows), (clear rows l).length = rows.length
  | [], _ => rfl
  | i :: is, rows => by unfold clear; rw [clear_length]; simp
theorem clear_set {i : Nat} {x : Option Row} : ∀ (l : List Nat) (rows : Rows), i ∉ l → clear (rows.set i x) l = (clear rows l).set i x
  | [], _, _ => rfl
  | j :: is, rows, h => by
    simp only [List.mem_cons, not_or] at h
    unfold clear
    rw [List.set_comm _ _ h.1, clear_set is _ h.2]
theorem clear_out {r : Nat} : ∀ (l : List Nat) (rows : Rows), r ∉ l → (clear rows l)[r]? = rows[r]?
  | [], _, _ => rfl
  | j :: is, rows, h => by
    simp only [List.mem_cons, not_or] at h
    unfold clear
    rw [clear_out is _ h.2, List.getElem?_set]
    simp [Ne.symm h.1]
theorem subRows_set {r : Nat} {x : Option Row} {rows : Rows} {l : List Nat} (h : r ∉ l) : subRows (rows.set r x) l = subRows rows l := by
  unfold subRows
  apply List.map_congr_left
  intro a ha
  have : r ≠ a := fun e => h (e ▸ ha)
  simp [getRow, List.getD, this]

theorem set_none_eq {rows : Rows} {r : Nat} (h : rows[r]? = some none) : rows.set r none = rows := by
  apply List.ext_getElem?
  intro i
  rw [List.getElem?_set]
  split
  · rename_i e; subst e
    split
    · exact h.symm
    · rename_i hlt; simp [List.getElem?_eq_none (Nat.le_of_not_lt hlt)]
  · rfl

theorem rows_extract {w : World} {F : FZ} {fm : Nat → Nat} : ∀ (l : List Nat) {rows : Rows} {ms : Ms} {X : Cnt}, RowsRel w F fm rows ms X → l.Nodup → (∀ r ∈ l, r < rows.length) →
    ∃ Xl Xr, RowsRel w F fm (subRows rows l) (subM ms l) Xl ∧ RowsRel w F fm (clear rows l) ms Xr ∧ ∀ b, X b = Xl b + Xr b
  | [], rows, ms, X, h, _, _ => ⟨fun _ => 0, X, by simp only [subRows, subM, List.map_nil]; unfold RowsRel; exact ⟨rfl, Zero.of_zero⟩, h, fun b => by simp⟩
  | r :: l, rows, ms, X, h, hn, hl => by
    have hr := hl r (by simp)
    have hn' := List.nodup_cons.1 hn
    have hget : rows[r]? = some rows[r] := List.getElem?_eq_getElem hr
    have hm : ms[r]? = some (ms.getD r (none, 0)) := by
      have : r < ms.length := by rw [h.length]; exact hr
      simp [List.getD, List.getElem?_eq_getElem this]
    have hg : getRow rows r = rows[r] := by simp [getRow, List.getD, hget]
    cases hx : rows[r] with
    | none =>
      rw [hx] at hget hg
      have e := set_none_eq hget
      obtain ⟨Xl, Xr, h1, h2, h3⟩ := rows_extract l h hn'.2 (fun a ha => hl a (by simp [ha]))
      refine ⟨Xl, Xr, ?_, by unfold clear; rw [e]; exact h2, h3⟩
      simp only [subRows, subM, List.map_cons]
      unfold RowsRel
      refine ⟨_, _, fun _ => 0, Xl, rfl, ?_, h1, fun b => by simp⟩
      rw [hg]; exact Zero.of_zero
    | some row =>
      rw [hx] at hget hg
      obtain ⟨m, X1, X2, hm', hv, hat, hX, hset⟩ := h.take hget
      obtain ⟨Xl, Xr, h1, h2, h3⟩ := rows_extract l hset hn'.2 (fun a ha => by simpa using hl a (by simp [ha]))
      rw [subRows_set hn'.1] at h1
      rw [hm'] at hm
      have hme : m = ms.getD r (none, 0) := by simpa using hm
      refine ⟨fun b => X1 b + Xl b, Xr, ?_, h2, fun b => by show X b = X1 b + Xl b + Xr b; rw [hX, h3]; omega⟩
      simp only [subRows, subM, List.map_cons]
      unfold RowsRel
      refine ⟨_, _, X1, Xl, rfl, ?_, h1, fun _ => rfl⟩
      rw [hg, ← hme]
      exact ⟨hv, hat⟩

theorem rows_put {w F fm} : ∀ {rows : Rows} {ms : Ms} {X2 : Cnt} {r : Nat} {x : Option Row} {m : Option (Nat × Nat) × Nat} {X1 : Cnt}, RowsRel w F fm (rows.set r none) ms X2 → r < rows.length →
    (match x with | none => Zero X1 | some row => row.ver = m.2 ∧ RowAt w F fm row m.1 X1) → RowsRel w F fm (rows.set r x) (ms.set r m) (fun b => X1 b + X2 b)
  | [], _, _, _, _, _, _, _, h, _ => by simp at h
  | r0 :: rs, ms, X2, 0, x, m, X1, h, _, hat => by
    simp only [List.set_cons_zero] at h ⊢
    unfold RowsRel at h
    obtain ⟨m', ms', Y1, Y2, rfl, h1, h2, hX⟩ := h
    unfold RowsRel
    refine ⟨m, ms', X1, Y2, by simp, by cases x <;> exact hat, h2, fun b => ?_⟩
    have hz : Y1 b = 0 := h1 b
    show X1 b + X2 b = X1 b + Y2 b
    rw [hX, hz]; omega
  | r0 :: rs, ms, X2, r + 1, x, m, X1, h, hr, hat => by
    simp only [List.set_cons_succ] at h ⊢
    unfold RowsRel at h
    obtain ⟨m', ms', Y1, Y2, rfl, h1, h2, hX⟩ := h
    unfold RowsRel
    refine ⟨m', ms'.set r m, Y1, fun b => X1 b + Y2 b, by simp, h1, rows_put h2 (by simpa using hr) hat, fun b => ?_⟩
    show X1 b + X2 b = Y1 b + (X1 b + Y2 b)
    rw [hX]; omega

theorem rows_insert {w : World} {F : FZ} {fm : Nat → Nat} : ∀ (l : List Nat) {rows back : Rows} {ms mb : Ms} {Xb Xr : Cnt}, RowsRel w F fm (clear rows l) ms Xr → RowsRel w F fm back mb Xb → back.length = l.length → l.Nodup → (∀ r ∈ l, r < rows.length) →
    RowsRel w F fm (writeL rows l back) (writeL ms l mb) (fun b => Xb b + Xr b)
  | [], rows, back, ms, mb, Xb, Xr, h, hb, hl, _, _ => by
    have : back = [] := List.eq_nil_of_length_eq_zero hl
    subst this
    unfold RowsRel at hb
    obtain ⟨rfl, hz⟩ := hb
    simp only [writeL]
    exact h.congr fun b => by simp [hz b]
  | r :: l, rows, [], ms, mb, Xb, Xr, h, hb, hl, _, _ => by simp at hl
  | r :: l, rows, x :: back, ms, mb, Xb, Xr, h, hb, hl, hn, hlt => by
    unfold RowsRel at hb
    obtain ⟨m, mb', X1, X2, rfl, h1, h2, hX⟩ := hb
    have hn' := List.nodup_cons.1 hn
    unfold clear at h
    rw [clear_set l _ hn'.1] at h
    have h3 := rows_put (x := x) (m := m) (X1 := X1) h (by rw [clear_length]; exact hlt r (by simp)) (by cases x <;> exact h1)
    rw [← clear_set l _ hn'.1] at h3
    simp only [writeL]
    exact (rows_insert l h3 h2 (by simpa using hl) hn'.2 (fun a ha => by simpa using hlt a (by simp [ha]))).congr fun b => by rw [hX]; omega

/-! ### What is said of the rows, in part and in whole -/
theorem theRow_eq' {rows rows' : Rows} {r r' : Nat} (h : rows[r]? = rows'[r']?) : theRow rows r = theRow rows' r' := by unfold theRow; rw [h]

theorem locAt_eq {w : World} {rows rows' : Rows} {ms ms' : Ms} {r r' : Nat} (h : rows[r]? = rows'[r']?) (hm : ms[r]? = ms'[r']?) (p : List Nat) (n : Nat) : locAt w rows ms r p n = locAt w rows' ms' r' p n := by
  unfold locAt; rw [theRow_eq' h, hm]

/-- Where the rows are the same, the same is said of them. -/
theorem locMap_of_eq {w : World} {rows rows' : Rows} {ms ms' : Ms} {f : Nat → Nat} {S : Nat → Prop} (h : ∀ r, r < rows.length → S r → f r < rows'.length ∧ rows[r]? = rows'[f r]? ∧ ms[r]? = ms'[f r]?) :
    LocMap f ((mkLoc w rows ms).on S) (mkLoc w rows' ms') := fun r hr => by
  obtain ⟨h1, h2, h3⟩ := h r hr.1 hr.2
  refine ⟨h1, by simp only [mkLoc, Loc.on, h3]; exact Nat.le_refl _, fun p n l _ hl => ?_⟩
  simp only [mkLoc, Loc.on] at hl ⊢
  rw [locAt_eq h2 h3]; exact hl

theorem sub_get {rows : Rows} {ms : Ms} {l : List Nat} {i r : Nat} (hl : l[i]? = some r) (hr : r < rows.length) (hm : ms.length = rows.length) : (subRows rows l)[i]? = rows[r]? ∧ (subM ms l)[i]? = ms[r]? := by
  have hr' : r < ms.length := by omega
  simp [subRows, subM, hl, getRow, List.getD, List.getElem?_eq_getElem hr, List.getElem?_eq_getElem hr']

theorem idx_get {l : List Nat} {r : Nat} (h : r ∈ l) : l[l.idxOf r]? = some r := by
  have hlt := List.idxOf_lt_length_of_mem h
  rw [List.getElem?_eq_getElem hlt, List.getElem_idxOf]

theorem loc_down {w : World} {rows : Rows} {ms : Ms} {l : List Nat} (hm : ms.length = rows.length) :
    LocMap (fun r => l.idxOf r) ((mkLoc w rows ms).on (· ∈ l)) (mkLoc w (subRows rows l) (subM ms l)) :=
  locMap_of_eq fun r hr hS => by
    obtain ⟨h1, h2⟩ := sub_get (rows := rows) (ms := ms) (idx_get hS) hr hm
    exact ⟨by simp only [subRows, List.length_map]; exact List.idxOf_lt_length_of_mem hS, h1.symm, h2.symm⟩

theorem loc_up {w : World} {rows back : Rows} {ms mb : Ms} {l : List Nat} (hn : l.Nodup) (hl : ∀ r ∈ l, r < rows.length) (hm : ms.length = rows.length) (hb : back.length = l.length) (hmb : mb.length = l.length) :
    LocMap (fun i => l.getD i 0) (mkLoc w back mb) (mkLoc w (writeL rows l back) (writeL ms l mb)) := fun i hi => by
  have hi : i < back.length := hi
  have hil : i < l.length := by omega
  have e : l[i]? = some (l.getD i 0) := by simp [List.getD, List.getElem?_eq_getElem hil]
  have hlt := hl _ (List.mem_of_getElem? e)
  have h1 := writeL_in l rows back i hn e (List.getElem?_eq_getElem hi) hlt
  have h2 := writeL_in l ms mb i hn e (List.getElem?_eq_getElem (by omega : i < mb.length)) (by omega)
  refine ⟨by simp only [mkLoc]; rw [writeL_length]; exact hlt, ?_, fun p n lo _ hlo => ?_⟩
  · simp only [mkLoc, h2, List.getElem?_eq_getElem (by omega : i < mb.length)]
    exact Nat.le_refl _
  · simp only [mkLoc] at hlo ⊢
    rw [locAt_eq (rows' := back) (ms' := mb) (r' := i) (by rw [h1, List.getElem?_eq_getElem hi]) (by rw [h2, List.getElem?_eq_getElem (by omega : i < mb.length)])] at hlo
    exact hlo

/-- A step in some of the rows, seen in all of them; 'new' are empty rows that it may fill. -/
theorem view_back {w w' : World} {F F' : FZ} {fm : Nat → Nat} {rows back : Rows} {ms mb : Ms} {l new : List Nat} {Xr A A' Xb : Cnt} (hm : ms.length = rows.length)
    (hn : (l ++ new).Nodup) (hl : ∀ r ∈ l ++ new, r < rows.length) (hnew : ∀ r ∈ new, rows[r]? = some none) (hb : back.length = (l ++ new).length)
    (hr : RowsRel w F fm (clear rows l) ms Xr) (hA : ∀ b, A b + Xr b ≤ 1) (hR : RowsRel w' F' fm back mb Xb) (hE : Ext w F (mkLoc w (subRows rows l) (subM ms l)) A w' F' (mkLoc w' back mb) A') :
    RowsRel w' F' fm (writeL rows (l ++ new) back) (writeL ms (l ++ new) mb) (fun b => Xb b + Xr b) ∧
    Ext w F ((mkLoc w rows ms).on (· ∉ new)) (fun b => A b + Xr b) w' F' (mkLoc w' (writeL rows (l ++ new) back) (writeL ms (l ++ new) mb)) (fun b => A' b + Xr b) ∧
    LocMap (fun i => (l ++ new).getD i 0) (mkLoc w' back mb) (mkLoc w' (writeL rows (l ++ new) back) (writeL ms (l ++ new) mb)) := by
  have hk : Keep w F w' F' Xr := hE.keep fun b hb => ⟨by have := hA b; omega, hr.lt hb⟩
  have hup := loc_up (w := w') (rows := rows) (ms := ms) hn hl hm hb (by rw [hR.length]; exact hb)
  have hclear : clear rows (l ++ new) = clear rows l := by
    apply List.ext_getElem?
    intro i
    have aux : ∀ (l new : List Nat) (rows : Rows), (∀ r ∈ new, (clear rows l)[r]? = some none) → clear rows (l ++ new) = clear rows l := by
      intro l
      induction l with
      | nil =>
        intro new
        induction new with
        | nil => intro rows _; rfl
        | cons j js ih =>
          intro rows h
          have h0 : rows[j]? = some none := h j (by simp)
          have e := set_none_eq h0
          simp only [List.nil_append] at ih ⊢
          show clear (rows.set j none) js = rows
          rw [e]
          exact ih rows fun r hr => h r (by simp [hr])
      | cons j js ih => intro new rows h; simp only [List.cons_append]; unfold clear; exact ih new _ h
    rw [aux l new rows fun r hr => ?_]
    rw [clear_out _ _ fun hrl => ?_]
    · exact hnew r hr
    · exact (List.nodup_append.1 hn).2.2 r hrl r hr rfl
  refine ⟨rows_insert _ (by rw [hclear]; exact hr.keep hk) hR hb hn hl, ?_, hup⟩
  refine ⟨hE.cell, hE.sub, fun b o h => ?_, fun b h => ?_, fun b h h0 => hE.same b h (by omega), hE.has, hE.os, hE.tape, hE.output, hE.size, ?_⟩
  · rcases hE.new b o h with h | h | h
    · exact .inl h
    · exact .inr (.inl (by omega))
    · exact .inr (.inr h)
  · by_cases h0 : A' b = 0
    · left; omega
    · rcases hE.own b h0 with h | h
      · left; omega
      · exact .inr h
  · have hw : LocLe (mkLoc w (clear rows l) ms) (mkLoc w' (clear rows l) ms) := mkLoc_world hr hk.own
    have hdown := loc_down (w := w) (rows := rows) (ms := ms) (l := l) hm
    have hall := (hdown.trans hE.loc.map).trans hup
    have pt : LocMap (fun r => r) ((mkLoc w rows ms).on (· ∉ new)) (mkLoc w' (writeL rows (l ++ new) back) (writeL ms (l ++ new) mb)) := fun r hr => by
      by_cases hrl : r ∈ l
      · have h := hall r ⟨hr.1, hrl⟩
        have e : (l ++ new).getD (l.idxOf r) 0 = r := by
          have := idx_get hrl
          have hlt := List.idxOf_lt_length_of_mem hrl
          simp [List.getD, List.getElem?_append_left hlt, this]
        simp only [e] at h
        exact h
      · have hout : r ∉ l ++ new := by simp only [List.mem_append, not_or]; exact ⟨hrl, hr.2⟩
        have h1 : (writeL rows (l ++ new) back)[r]? = (clear rows l)[r]? := by rw [writeL_out _ _ _ hout, clear_out _ _ hrl]
        have h2 : (writeL ms (l ++ new) mb)[r]? = ms[r]? := writeL_out _ _ _ hout
        have h3 : rows[r]? = (clear rows l)[r]? := (clear_out _ _ hrl).symm
        have hlt : r < rows.length := hr.1
        refine ⟨by simp only [mkLoc]; rw [writeL_length]; exact hlt, by simp only [mkLoc, Loc.on, h2]; exact Nat.le_refl _, fun p n lo hp hlo => ?_⟩
        simp only [mkLoc, Loc.on] at hlo hp ⊢
        rw [locAt_eq h1 h2] at hlo
        rw [locAt_eq h3 rfl]
        exact hw.2.2 r p n lo (by show r < (clear rows l).length; rw [clear_length]; exact hlt) hp hlo
    exact pt.le fun _ _ => rfl
end Av
namespace Av
open Go

/-- What a call comes to. -/
def After (fm : Nat → Nat) (w : World) (F : FZ) (rows : Rows) (ms : Ms) (A : Cnt) (res : D) (rows' : Rows) (v : Value) (w' : World) : Prop :=
  ∃ F' ms' X' Y', RowsRel w' F' fm rows' ms' X' ∧ Rel w' F' fm L0 res v Y' ∧ (∀ b, X' b + Y' b ≤ 1) ∧ FOK w' F' ∧ Ext w F (mkLoc w rows ms) A w' F' (mkLoc w' rows' ms') (fun b => X' b + Y' b)

def CallOK (P : Program) (fm : Nat → Nat) (callF : CallF) : Prop :=
  ∀ (g : Nat) (args : List D) (rows : Rows) (res : D) (rows' : Rows), callF g args rows = some (res, rows') → ∀ (w : World) (F : FZ) (ms : Ms) (X Y : Cnt) (vs : List Value), RowsRel w F fm rows ms X → RelL w F fm (mkLoc w rows ms) args vs Y → (∀ b, X b + Y b ≤ 1) → FOK w F →
    ∀ (o : Oper) (a : Act) (K : Act → World → Prop) (Q : Exit → Act → World → Prop), (∀ v w', After fm w F rows ms (fun b => X b + Y b) res rows' v w' → K (a.put o.dst v) w') → o.upon P a K Q ((callFunc (fm g) vs.toArray).run P w)

section
variable {w : World} {F : FZ} {fm : Nat → Nat}

theorem Ext.add0 {F' : FZ} {w' : World} {L L' : Loc} {X X' : Cnt} (h : Ext w F L (fun b => X b + 0) w' F' L' X') : Ext w F L X w' F' L' X' := h

theorem takeV_ok {m : Mode} {d d' : D} {rows rows' : Rows} {ms : Ms} {X : Cnt} {v : Value} (h : takeV m rows d = some (rows', d')) (hR : RowsRel w F fm rows ms X) (hd : Rel w F fm (mkLoc w rows ms) d v (fun _ => 0)) (hX : ∀ b, X b ≤ 1) (hF : FOK w F) :
    ∃ F' ms' X' Y', RowsRel w F' fm rows' ms' X' ∧ Rel w F' fm (mkLoc w rows' ms') d' v Y' ∧ Ext w F (mkLoc w rows ms) X w F' (mkLoc w rows' ms') (fun b => X' b + Y' b) ∧ FOK w F' ∧ (∀ b, X' b + Y' b ≤ X b) := by
  have asis : ∀ {h : some (rows, d) = some (rows', d')}, ∃ F' ms' X' Y', RowsRel w F' fm rows' ms' X' ∧ Rel w F' fm (mkLoc w rows' ms') d' v Y' ∧ Ext w F (mkLoc w rows ms) X w F' (mkLoc w rows' ms') (fun b => X' b + Y' b) ∧ FOK w F' ∧ (∀ b, X' b + Y' b ≤ X b) := fun {h} => by
    simp only [Option.some.injEq, Prod.mk.injEq] at h
    obtain ⟨rfl, rfl⟩ := h
    exact ⟨F, ms, X, fun _ => 0, hR, hd, Ext.refl _ _ _ _, hF, fun b => Nat.le_refl _⟩
  cases m with
  | asis => exact asis (h := h)
  | lend => exact asis (h := h)
  | share =>
    obtain ⟨F', ms', X', Y', h1, ⟨h2, rfl⟩, h3, h4, h5, h6⟩ := shareV_ok d h hR hd (fun b => by have := hX b; omega) hF
    exact ⟨F', ms', X', fun _ => 0, h1, LocLe.of0 h2, h3.add0, h5, fun b => by have := h6 b; omega⟩
  | own =>
    obtain ⟨F', ms', X', Y', h1, h2, h3, h4, h5, h6⟩ := giveV_ok d h hR hd (fun b => by have := hX b; omega) hF
    exact ⟨F', ms', X', Y', h1, LocLe.of0 h2, h3.add0, h5, fun b => by have := h6 b; omega⟩

theorem takeArgs_ok : ∀ (ds : List D) {modes : List Mode} {ds' : List D} {F : FZ} {rows rows' : Rows} {ms : Ms} {X : Cnt} {vs : List Value}, takeArgs rows modes ds = some (rows', ds') → RowsRel w F fm rows ms X → RelL w F fm (mkLoc w rows ms) ds vs (fun _ => 0) → (∀ b, X b ≤ 1) → FOK w F →
    ∃ F' ms' X' Y', RowsRel w F' fm rows' ms' X' ∧ RelL w F' fm (mkLoc w rows' ms') ds' vs Y' ∧ Ext w F (mkLoc w rows ms) X w F' (mkLoc w rows' ms') (fun b => X' b + Y' b) ∧ FOK w F' ∧ (∀ b, X' b + Y' b ≤ X b)
  | [], modes, ds', F, rows, rows', ms, X, vs, h, hR, hd, hX, hF => by
    simp only [takeArgs, Option.some.injEq, Prod.mk.injEq] at h
    obtain ⟨rfl, rfl⟩ := h
    exact ⟨F, ms, X, fun _ => 0, hR, hd, Ext.refl _ _ _ _, hF, fun b => Nat.le_refl _⟩
  | d :: ds, modes, ds', F, rows, rows', ms, X, vs, h, hR, hd, hX, hF => by
    unfold RelL at hd
    obtain ⟨v, vs', Z1, Z2, rfl, hd1, hd2, hZ⟩ := hd
    have z1 : ∀ b, Z1 b = 0 := fun b => by have h : 0 = Z1 b + Z2 b := hZ b; omega
    have z2 : ∀ b, Z2 b = 0 := fun b => by have h : 0 = Z1 b + Z2 b := hZ b; omega
    have hd1 := hd1.congr (Y := fun _ => 0) fun b => (z1 b).symm
    have hd2 := hd2.congr (Y := fun _ => 0) fun b => (z2 b).symm
    simp only [takeArgs] at h
    split at h
    · simp at h
    rename_i rows1 d1 h1
    split at h
    · simp at h
    rename_i rows2 ds2 h2
    simp only [Option.some.injEq, Prod.mk.injEq] at h
    obtain ⟨rfl, rfl⟩ := h
    obtain ⟨F1, ms1, X1, Y1, a1, a2, a3, a4, a5⟩ := takeV_ok h1 hR hd1 hX hF
    obtain ⟨F2, ms2, X2, Y2, b1, b2, b3, b4, b5⟩ := takeArgs_ok ds h2 a1 (a3.relL hd2) (fun b => by have := hX b; have := a5 b; omega) a4
    have hk : Keep w F1 w F2 Y1 := b3.keep fun b hb => ⟨by have := hX b; have := a5 b; omega, a2.lt hb⟩
    refine ⟨F2, ms2, X2, fun b => Y1 b + Y2 b, b1, RelL.cons (a2.keep hk b3.loc) b2, ?_, b4, fun b => by have := a5 b; have := b5 b; show X2 b + (Y1 b + Y2 b) ≤ X b; omega⟩
    have b3' := b3.count (Y := fun b => X1 b + Y1 b) (Y' := fun b => X2 b + (Y1 b + Y2 b)) (fun b hb => by omega) (fun b hb => by omega)
    exact a3.trans b3'

/-! ### Lending -/
theorem cells_own {rows : Rows} {ms : Ms} {X : Cnt} {r : Nat} {path : List Nat} {ver : Nat} {row : Row} {cells : List D} (h : cellsAt rows r path ver = some (row, cells)) (hne : cells ≠ [])
    (hR : RowsRel w F fm rows ms X) : ∃ b base vs Xc, locAt w rows ms r path ver = some (some (b, base)) ∧ One vs ∧ (∀ j (h : j < vs.length), w.cell? ⟨b, base + j, none⟩ = some vs[j]) ∧ RelL w F fm L0 cells vs Xc ∧ X b ≠ 0 ∧ (∀ c, Xc c ≠ 0 → X c ≠ 0) := by
  match path, h with
  | [], h =>
    obtain ⟨row', hr, he⟩ := cellsAt_top h
    simp only [Prod.mk.injEq] at he
    obtain ⟨rfl, rfl⟩ := he
    obtain ⟨m, X1, X2, hm, hv, hat, hX, _⟩ := hR.take hr
    obtain ⟨m1, m2⟩ := m
    match m1, hat with
    | none, hat => exact absurd hat.1 hne
    | some (b, base), ⟨vs, Xc, ho, hb, hrl, _, hY⟩ =>
      exact ⟨b, base, vs, Xc, by simp [locAt, theRow_of hr, hm], ho, hb.cells, hrl, by rw [hX, hY]; simp, fun c hc => by rw [hX, hY]; omega⟩
  | p :: ps, h =>
    obtain ⟨row', hr, hvv, hn, he⟩ := cellsAt_nest h
    simp only at he hn
    subst he
    obtain ⟨m, X1, X2, hm, hv, hat, hX, _⟩ := hR.take hr
    obtain ⟨m1, m2⟩ := m
    match m1, hat with
    | none, hat => rw [hat.1] at hn; simp [nav] at hn
    | some (b, base), ⟨vs, Xc, ho, hb, hrl, _, hY⟩ =>
      obtain ⟨k2, n2, v2, Z1, R, g1, g2, g3, _⟩ := nav_focus (p :: ps) row.cells vs Xc (b, base) cells (by simp) hrl hb.cells hn
      unfold Rel at g1
      obtain ⟨hl1, a, cap, hva, hcap, h | ⟨ad, vs1, Y, ha, hs, ho1, hb1, hrl1, hF, hX1⟩⟩ := g1
      · exact absurd h.1 hne
      subst ha hva
      have hnv : navC w row.cells (b, base) (p :: ps) = some (.slice (some ad) n2 cap) := by
        have := g3 []
        rw [List.append_nil] at this
        rw [this]; rfl
      have hcap0 : cap ≠ 0 := by
        rcases Nat.eq_zero_or_pos n2 with h0 | h0
        · subst h0
          exact absurd (List.eq_nil_of_length_eq_zero (by simpa using hl1)) hne
        · omega
      refine ⟨ad.block, ad.off, vs1, Y, ?_, ho1, hb1.cells, hrl1, by rw [hX, hY, g2, hX1]; simp, fun c hc => by rw [hX, hY, g2, hX1]; omega⟩
      simp only [locAt, theRow_of hr, hm]
      rw [if_pos hvv, hnv]
      simp [locV, hcap0]

mutual
theorem lendV_ok {rows : Rows} {ms : Ms} {X : Cnt} (hR : RowsRel w F fm rows ms X) : ∀ {d d' : D} {v : Value} {Y : Cnt}, lendV rows d = some d' → Rel w F fm (mkLoc w rows ms) d v Y → Rel w (frz w F X) fm (mkLoc w rows ms) d' v (fun _ => 0)
  | .ref r path ver off n k, d', v, Y, h, hd => by
    simp only [lendV] at h
    split at h
    · simp at h
    rename_i row cells hc
    split at h
    case isFalse => simp at h
    rename_i hl
    simp only [Option.some.injEq] at h
    subst h
    unfold Rel at hd
    obtain ⟨hz, hrn, hver, a, cap, hv, hcap, hloc⟩ := hd
    unfold Rel
    refine ⟨Zero.of_zero, cut_length (by rw [shareL_length]; exact hl), a, cap, hv, hcap.1, ?_⟩
    by_cases h0 : n * k = 0
    · left; rw [h0]; simp [cut]
    · have hne : cells ≠ [] := fun e => by subst e; simp at hl; omega
      obtain ⟨b, base, vs, Xc, h1, h2, h3, h4, h5, h6⟩ := cells_own hc hne hR
      have hcap0 : cap ≠ 0 := fun e => by
        have : n = 0 := by omega
        subst this; simp at h0
      rcases hloc _ h1 with h7 | h7
      · exact absurd h7 hcap0
      · have hlen := h4.length
        refine .inr ⟨⟨b, base + off, none⟩, cutL vs off (n * k), h7.1, rfl, h2.cut _ _, fun j hj => ?_, ?_⟩
        · obtain ⟨hj', e⟩ := cutL_get hj
          rw [e]
          have hcell := h3 _ hj'
          rw [← Nat.add_assoc] at hcell
          exact ⟨hcell, .inr ⟨h5, by rw [hcell]; rfl⟩⟩
        · have hs := RelL.share ((frz_froze w F X).mono h6) h4
          exact hs.cut0 off (n * k)
  | .agg vs, d', v, Y, h, hd => by
    simp only [lendV] at h
    obtain ⟨ds, h1, rfl⟩ := map_some h
    unfold Rel at hd ⊢
    obtain ⟨us, hv, hr⟩ := hd
    exact ⟨us, hv, lendVs_ok hR h1 hr⟩
  | .slice false k n cs, d', v, Y, h, hd => by
    simp only [lendV] at h
    simp at h
    subst h
    have hz : Y = fun _ => 0 := by unfold Rel at hd; exact funext hd.1
    subst hz
    have := hd.share (F' := frz w F X) ((frz_froze w F X).mono fun b hb => absurd rfl hb)
    unfold shareD at this
    exact this
  | .slice true k n cs, d', v, Y, h, hd => by
    simp only [lendV] at h
    simp at h
    obtain ⟨h0, h⟩ := h
    subst h h0
    unfold Rel at hd ⊢
    obtain ⟨hl, a, cap, hv, hc, _⟩ := hd
    exact ⟨Zero.of_zero, by simpa [shareL] using hl, a, cap, hv, hc, .inl (by simp [shareL])⟩
  | .bool b, d', v, Y, h, hd => by simp only [lendV, Option.some.injEq] at h; subst h; unfold Rel at hd ⊢; exact ⟨hd.1, Zero.of_zero⟩
  | .int k n, d', v, Y, h, hd => by simp only [lendV, Option.some.injEq] at h; subst h; unfold Rel at hd ⊢; exact ⟨hd.1, Zero.of_zero⟩
  | .str s, d', v, Y, h, hd => by simp only [lendV, Option.some.injEq] at h; subst h; unfold Rel at hd ⊢; exact ⟨hd.1, Zero.of_zero⟩
  | .undef, d', v, Y, h, hd => by simp [lendV] at h
  | .addr .., d', v, Y, h, hd => by simp [lendV] at h
  | .faddr .., d', v, Y, h, hd => by simp [lendV] at h
  | .tup .., d', v, Y, h, hd => by simp [lendV] at h
  | .fn .., d', v, Y, h, hd => by simp [lendV] at h
theorem lendVs_ok {rows : Rows} {ms : Ms} {X : Cnt} (hR : RowsRel w F fm rows ms X) : ∀ {d d' : List D} {v : List Value} {Y : Cnt}, lendVs rows d = some d' → RelL w F fm (mkLoc w rows ms) d v Y → RelL w (frz w F X) fm (mkLoc w rows ms) d' v (fun _ => 0)
  | [], d', v, Y, h, hd => by
    simp only [lendVs, Option.some.injEq] at h
    subst h
    unfold RelL at hd ⊢
    exact ⟨hd.1, Zero.of_zero⟩
  | d :: ds, d', v, Y, h, hd => by
    simp only [lendVs] at h
    split at h
    case h_2 => simp at h
    rename_i e es h1 h2
    simp only [Option.some.injEq] at h
    subst h
    unfold RelL at hd
    obtain ⟨v, vs', Z1, Z2, rfl, hd1, hd2, hZ⟩ := hd
    exact (RelL.cons (lendV_ok hR h1 hd1) (lendVs_ok hR h2 hd2)).congr fun _ => rfl
end

theorem lendArgs_ok {rows : Rows} {ms : Ms} {X : Cnt} (hR : RowsRel w F fm rows ms X) : ∀ {ds ds' : List D} {modes : List Mode} {vs : List Value} {Y : Cnt}, lendArgs rows modes ds = some ds' → RelL w F fm (mkLoc w rows ms) ds vs Y → (∀ b, X b + Y b ≤ 1) →
    ∃ Y', RelL w (frz w F X) fm (mkLoc w rows ms) ds' vs Y' ∧ ∀ b, Y' b ≤ Y b
  | [], ds', modes, vs, Y, h, hd, hX => by
    simp only [lendArgs, Option.some.injEq] at h
    subst h
    unfold RelL at hd
    exact ⟨fun _ => 0, by unfold RelL; exact ⟨hd.1, Zero.of_zero⟩, fun b => Nat.zero_le _⟩
  | d :: ds, ds', modes, vs, Y, h, hd, hX => by
    simp only [lendArgs] at h
    split at h
    case h_2 => simp at h
    rename_i e es h1 h2
    simp only [Option.some.injEq] at h
    subst h
    unfold RelL at hd
    obtain ⟨v, vs', Z1, Z2, rfl, hd1, hd2, hZ⟩ := hd
    obtain ⟨Y2, h3, h4⟩ := lendArgs_ok hR h2 hd2 (fun b => by have := hX b; have := hZ b; omega)
    split at h1
    · exact ⟨_, RelL.cons (lendV_ok hR h1 hd1) h3, fun b => by have := h4 b; have := hZ b; show 0 + Y2 b ≤ Y b; omega⟩
    · simp only [Option.some.injEq] at h1
      subst h1
      exact ⟨_, RelL.cons (hd1.keep (frz_keep fun b hb => by have := hX b; have := hZ b; omega) (LocLe.refl _)) h3, fun b => by have := h4 b; have := hZ b; show Z1 b + Y2 b ≤ Y b; omega⟩

/-! ### Values without shared memory -/
mutual
theorem Rel.own_only {F' : FZ} (hs : ∀ b o, F' b o → F b o) : ∀ {d : D} {L L' : Loc} {v : Value} {Y : Cnt}, ownOnly d = true → Rel w F fm L d v Y → Rel w F' fm L' d v Y
  | .undef, _, _, _, _, _, h => by unfold Rel at h ⊢; exact h
  | .bool _, _, _, _, _, _, h => by unfold Rel at h ⊢; exact h
  | .int _ _, _, _, _, _, _, h => by unfold Rel at h ⊢; exact h
  | .str _, _, _, _, _, _, h => by unfold Rel at h ⊢; exact h
  | .slice false k n cs, _, _, _, _, ho, h => by
    unfold ownOnly at ho
    simp at ho
    unfold Rel at h ⊢
    obtain ⟨h1, h2, a, cap, h3, h4, _⟩ := h
    exact ⟨h1, h2, a, cap, h3, h4, .inl ho.1⟩
  | .slice true k n cs, _, _, _, _, ho, h => by
    unfold ownOnly at ho
    simp at ho
    unfold Rel at h ⊢
    obtain ⟨h2, a, cap, h3, h4, h5⟩ := h
    refine ⟨h2, a, cap, h3, h4, ?_⟩
    rcases h5 with h5 | ⟨ad, vs, Z, g1, g2, g3, g4, g5, g6, g7⟩
    · exact .inl h5
    · exact .inr ⟨ad, vs, Z, g1, g2, g3, g4, RelL.own_only hs ho g5, fun o hf => g6 o (hs _ _ hf), g7⟩
  | .ref .., _, _, _, _, ho, _ => by unfold ownOnly at ho; simp at ho
  | .addr .., _, _, _, _, ho, _ => by unfold ownOnly at ho; simp at ho
  | .faddr .., _, _, _, _, ho, _ => by unfold ownOnly at ho; simp at ho
  | .fn .., _, _, _, _, ho, _ => by unfold ownOnly at ho; simp at ho
  | .agg cs, _, _, _, _, ho, h => by
    unfold ownOnly at ho
    unfold Rel at h ⊢
    obtain ⟨vs, h1, h2⟩ := h
    exact ⟨vs, h1, RelL.own_only hs ho h2⟩
  | .tup cs, _, _, _, _, ho, h => by
    unfold ownOnly at ho
    unfold Rel at h ⊢
    obtain ⟨vs, h1, h2⟩ := h
    exact ⟨vs, h1, RelL.own_only hs ho h2⟩
theorem RelL.own_only {F' : FZ} (hs : ∀ b o, F' b o → F b o) : ∀ {d : List D} {L L' : Loc} {v : List Value} {Y : Cnt}, ownOnlyL d = true → RelL w F fm L d v Y → RelL w F' fm L' d v Y
  | [], _, _, _, _, _, h => by unfold RelL at h ⊢; exact h
  | d :: ds, _, _, _, _, ho, h => by
    unfold ownOnlyL at ho
    simp only [Bool.and_eq_true] at ho
    unfold RelL at h ⊢
    obtain ⟨v, vs', X1, X2, h1, h2, h3, h4⟩ := h
    exact ⟨v, vs', X1, X2, h1, Rel.own_only hs ho.1 h2, RelL.own_only hs ho.2 h3, h4⟩
end

/-! ### Calls -/
mutual
theorem ids_mem : ∀ (d : D) (l : List Nat), idsIn (· ∈ ids l d) d ∧ ∀ x ∈ l, x ∈ ids l d
  | .undef, l => by unfold ids idsIn; exact ⟨trivial, fun _ h => h⟩
  | .bool _, l => by unfold ids idsIn; exact ⟨trivial, fun _ h => h⟩
  | .int _ _, l => by unfold ids idsIn; exact ⟨trivial, fun _ h => h⟩
  | .str _, l => by unfold ids idsIn; exact ⟨trivial, fun _ h => h⟩
  | .slice _ _ _ _, l => by unfold ids idsIn; exact ⟨trivial, fun _ h => h⟩
  | .faddr _ _, l => by unfold ids idsIn; exact ⟨trivial, fun _ h => h⟩
  | .ref r _ _ _ _ _, l => by
    unfold ids idsIn
    obtain ⟨t, ht⟩ := addId_pre l r
    exact ⟨by unfold addId; split <;> simp_all, fun x hx => by rw [ht]; simp [hx]⟩
  | .addr r _ _ _, l => by
    unfold ids idsIn
    obtain ⟨t, ht⟩ := addId_pre l r
    exact ⟨by unfold addId; split <;> simp_all, fun x hx => by rw [ht]; simp [hx]⟩
  | .agg vs, l => by unfold ids idsIn; exact idsL_mem vs l
  | .tup vs, l => by unfold ids idsIn; exact idsL_mem vs l
  | .fn _ vs, l => by unfold ids idsIn; exact idsL_mem vs l
theorem idsL_mem : ∀ (ds : List D) (l : List Nat), idsInL (· ∈ idsL l ds) ds ∧ ∀ x ∈ l, x ∈ idsL l ds
  | [], l => by unfold idsL idsInL; exact ⟨trivial, fun _ h => h⟩
  | d :: ds, l => by
    unfold idsL idsInL
    obtain ⟨h1, h2⟩ := ids_mem d l
    obtain ⟨h3, h4⟩ := idsL_mem ds (ids l d)
    exact ⟨⟨h1.mono fun r hr => h4 r hr, h3⟩, fun x hx => h4 x (h2 x hx)⟩
end

theorem mask_eq {l : List Nat} : ∀ {ds : List D}, idsInL (· ∈ l) ds → ds.map (maskD l) = mapL (fun r => l.idxOf r) ds
  | [], _ => by simp [mapL]
  | d :: ds, h => by
    unfold idsInL at h
    simp only [List.map_cons]
    unfold mapL
    rw [mask_eq h.2]
    congr 1
    unfold maskD
    rw [if_pos (within_iff.2 h.1)]

/-- The arguments of a call, as they are seen beside their own rows alone. -/
theorem sub_args {rows : Rows} {ms : Ms} {ds : List D} {vs : List Value} {Y : Cnt} {l : List Nat} (hm : ms.length = rows.length) (hl : idsL [] ds = l) (hd : RelL w F fm (mkLoc w rows ms) ds vs Y) :
    RelL w F fm (mkLoc w (subRows rows l) (subM ms l)) (ds.map (maskD l)) vs Y ∧ (l = [] → RelL w F fm (mkLoc w (subRows rows l) (subM ms l)) ds vs Y) := by
  have h0 := (idsL_mem ds []).1
  rw [hl] at h0
  have h1 := hd.on h0
  refine ⟨by rw [mask_eq h0]; exact h1.map (loc_down hm), fun e => h1.keep (Keep.refl _ _ _) ?_⟩
  subst e
  exact ⟨fun r hr => absurd hr.2 (by simp), fun r hr => absurd hr.2 (by simp), fun r p n lo hr => absurd hr.2 (by simp)⟩

theorem call_back {w' : World} {m : Mode} {rows back rows' : Rows} {ms : Ms} {X Y Ya Xl Xr : Cnt} {l : List Nat} {res res' : D} {v : Value} (hm : ms.length = rows.length) (hn : l.Nodup) (hl : ∀ r ∈ l, r < rows.length)
    (hr : RowsRel w F fm (clear rows l) ms Xr) (hX : ∀ b, X b = Xl b + Xr b) (hY : ∀ b, Ya b ≤ Y b) (h1 : ∀ b, X b + Y b ≤ 1) (hb : back.length = l.length)
    (hA : After fm w F (subRows rows l) (subM ms l) (fun b => Xl b + Ya b) res back v w') (hmv : madeV m (writeBack rows l back) res = some (res', rows')) :
    ∃ F' ms' X', RowsRel w' F' fm rows' ms' X' ∧ (∀ b, X' b ≤ 1) ∧ FOK w' F' ∧ Ext w F (mkLoc w rows ms) (fun b => X b + Y b) w' F' (mkLoc w' rows' ms') X' ∧ Rel w' F' fm (mkLoc w' rows' ms') res' v (fun _ => 0) := by
  obtain ⟨F1, mb, Xb, Yb, a1, a2, a3, a4, a5⟩ := hA
  obtain ⟨b1, b2, _⟩ := view_back (new := []) hm (by simpa using hn) (by simpa using hl) (by simp) (by simpa using hb) hr (fun b => by have := hX b; have := hY b; have := h1 b; show Xl b + Ya b + Xr b ≤ 1; omega) a1 a5
  simp only [List.append_nil] at b1 b2
  rw [writeBack_eq] at hmv
  have hone : ∀ b, Xb b + Xr b + Yb b ≤ 1 := fun b => by
    have g1 := a3 b
    have g2 := hX b
    have g3 := h1 b
    have g4 := hY b
    by_cases e : Xr b = 0
    · omega
    · by_cases e2 : Xb b + Yb b = 0
      · omega
      · rcases a5.own b e2 with h | h
        · have h : Xl b + Ya b ≠ 0 := h
          omega
        · have := hr.lt e
          omega
  obtain ⟨F2, ms2, X2, c1, c2, c3, _, c5, c6⟩ := madeV_ok hmv b1 a2 hone a4
  have hon : LocLe (mkLoc w rows ms) ((mkLoc w rows ms).on (· ∉ ([] : List Nat))) := ⟨fun r hr => ⟨hr, by simp⟩, fun r _ => Nat.le_refl _, fun _ _ _ _ _ _ h => h⟩
  have hall : Ext w F (mkLoc w rows ms) (fun b => Xl b + Ya b + Xr b) w' F1 (mkLoc w' (writeL rows l back) (writeL ms l mb)) (fun b => Xb b + Yb b + Xr b) :=
    { b2 with loc := hon.trans b2.loc }
  have c3' := c3.count (Y := fun b => Xb b + Yb b + Xr b) (Y' := X2) (fun b hb => by omega) (fun b hb => by have := c6 b; omega)
  refine ⟨F2, ms2, X2, c1, fun b => Nat.le_trans (c6 b) (hone b), c5, ((hall.trans c3').count (Y := fun b => X b + Y b) (Y' := X2) (fun b hb => ?_) (fun b hb => .inl hb)), c2⟩
  have := hX b
  have := hY b
  omega

/-- What was lent comes back. -/
theorem After.unlend {w' : World} {X Y : Cnt} {res : D} {v : Value} (hF : ∀ b o, F b o → frz w F X b o) (ho : ownOnly res = true) (h : After fm w (frz w F X) [] [] Y res [] v w') (hFK : FOK w F) : After fm w F [] [] Y res [] v w' := by
  obtain ⟨F', ms', X', Y', a1, a2, a3, a4, a5⟩ := h
  unfold RowsRel at a1
  obtain ⟨rfl, hz⟩ := a1
  have sub : ∀ b o, (F b o ∨ (F' b o ∧ (Y b ≠ 0 ∨ w.heap.size ≤ b))) → F' b o := fun b o h => h.elim (fun h => a5.sub b o (hF b o h)) (·.1)
  refine ⟨fun b o => F b o ∨ (F' b o ∧ (Y b ≠ 0 ∨ w.heap.size ≤ b)), [], X', Y', by unfold RowsRel; exact ⟨rfl, hz⟩, a2.own_only sub ho, a3, fun b o h => a4 b o (sub b o h), ?_⟩
  have _ := hFK
  exact ⟨fun b o h => a5.cell b o (hF b o h), fun b o h => .inl h, fun b o h => h.imp id (·.2), a5.own, a5.same, a5.has, a5.os, a5.tape, a5.output, a5.size, a5.loc⟩

end

theorem does_call {P : Program} {fm : Nat → Nat} {o : Oper} {a : Act} {w : World} {F : FZ} {rows rows' : Rows} {ms : Ms} {X : Cnt} {sl : List Nat} {tms : List (Option Nat)} {vars ts : List D} {res : D} (c : Cx w F fm rows ms X sl tms vars ts a)
    {callF : CallF} (hcall : CallOK P fm callF) {cl : Call} {f : Operand} {g : Nat} {modes : List Mode} {m : Mode} {xs : List Opd} (ho : o.op = .call cl) (hcl : cl.callee = .value f) (hf : a.eval f = .func (.func (fm g)) #[] #[])
    (hx : chkL fm sl tms xs cl.args.toList = true) (h : callV callF g modes m (xs.map (opd vars ts)) rows = some (res, rows')) : Does P fm o a w F rows ms X res rows' := fun K Q hK => by
  have hargs := opdL_ok c.fr hx
  have hrun : (execOp a.eval o).run P w = (callFunc (fm g) (cl.args.toList.map a.eval).toArray).run P w := by
    have e : (cl.args.toList.map a.eval).toArray = cl.args.map a.eval := by rw [← Array.toList_map]
    rw [e]
    simp [execOp, ho, resolve, hcl, hf, Deferred.ofValue, invoke]
  unfold Oper.wp
  rw [hrun]
  unfold callV at h
  split at h
  · simp at h
  rename_i rows1 args1 ht
  obtain ⟨F1, ms1, X1, Y1, a1, a2, a3, a4, a5⟩ := takeArgs_ok _ ht c.rel hargs c.one c.fok
  have h11 : ∀ b, X1 b + Y1 b ≤ 1 := fun b => Nat.le_trans (a5 b) (c.one b)
  have hlen := a1.length
  have fin : ∀ (l : List Nat) (Xl Xr Ya : Cnt) (res1 : D) (back : Rows) (v : Value) (w' : World), l.Nodup → (∀ r ∈ l, r < rows1.length) → RowsRel w F1 fm (clear rows1 l) ms1 Xr → (∀ b, X1 b = Xl b + Xr b) → (∀ b, Ya b ≤ Y1 b) → back.length = l.length →
      After fm w F1 (subRows rows1 l) (subM ms1 l) (fun b => Xl b + Ya b) res1 back v w' → madeV m (writeBack rows1 l back) res1 = some (res, rows') → K (a.put o.dst v) w' := fun l Xl Xr Ya res1 back v w' q1 q2 q3 q4 q5 q6 q7 q8 => by
    obtain ⟨F2, ms2, X2, r1, r2, r3, r4, r5⟩ := call_back hlen q1 q2 q3 q4 q5 h11 q6 q7 q8
    exact hK v w' F2 ms2 X2 r1 r2 r3 (a3.trans r4) r5
  have hids : idsInL (· < rows1.length) args1 := a2.ok
  split at h
  · split at h
    · simp at h
    rename_i args2 hl
    obtain ⟨Ya, b1, b2⟩ := lendArgs_ok a1 hl a2 h11
    split at h
    case h_2 => simp at h
    rename_i hnil
    split at h
    case h_2 => simp at h
    rename_i res1 hc
    split at h
    case isFalse => simp at h
    rename_i hown
    have hargs2 := (sub_args hlen hnil b1).2 rfl
    refine hcall _ _ _ _ _ hc w (frz w F1 X1) [] (fun _ => 0) Ya _ (by unfold RowsRel; exact ⟨rfl, Zero.of_zero⟩) hargs2 (fun b => by have := h11 b; have := b2 b; omega) (frz_ok a4) o a K Q fun v w' hA => ?_
    refine fin [] (fun _ => 0) X1 Ya res1 [] v w' (by simp) (by simp) a1 (fun b => by simp) b2 rfl (After.unlend (fun _ _ h => .inl h) hown hA a4) (by simpa [writeBack] using h)
  · split at h
    · rename_i hnil
      split at h
      case h_2 => simp at h
      rename_i res1 hc
      have hargs2 := (sub_args hlen hnil a2).2 rfl
      refine hcall _ _ _ _ _ hc w F1 [] (fun _ => 0) Y1 _ (by unfold RowsRel; exact ⟨rfl, Zero.of_zero⟩) hargs2 (fun b => by have := h11 b; omega) a4 o a K Q fun v w' hA => ?_
      exact fin [] (fun _ => 0) X1 Y1 res1 [] v w' (by simp) (by simp) a1 (fun b => by simp) (fun b => Nat.le_refl _) rfl hA (by simpa [writeBack] using h)
    · split at h
      · simp at h
      rename_i res1 back hc
      split at h
      case isFalse => simp at h
      rename_i hb
      have hnd : (idsL [] args1).Nodup := idsL_nodup (by simp)
      have hlt : ∀ r ∈ idsL [] args1, r < rows1.length := idsL_ok (by simp) hids
      obtain ⟨Xl, Xr, x1, x2, x3⟩ := rows_extract _ a1 hnd hlt
      have hargs2 := (sub_args hlen rfl a2).1
      refine hcall _ _ _ _ _ hc w F1 (subM ms1 (idsL [] args1)) Xl Y1 _ x1 hargs2 (fun b => by have := h11 b; have := x3 b; omega) a4 o a K Q fun v w' hA => ?_
      exact fin _ Xl Xr Y1 res1 back v w' hnd hlt x2 x3 (fun b => Nat.le_refl _) hb hA h
end Av
namespace Av
open Go

def sliceElem (P : Program) (t : TypeId) : Option TypeId :=
  match P.underlying t with
  | some (.slice e) => some e
  | _ => none
theorem sliceElem_ok {P : Program} {t e : TypeId} (h : sliceElem P t = some e) : P.underlying t = some (.slice e) := by
  unfold sliceElem at h
  split at h <;> simp_all

def structField (P : Program) (t : TypeId) (f : Nat) : Option Field :=
  match P.underlying t with
  | some (.struct fs) => fs[f]?
  | _ => none
theorem structField_ok {P : Program} {t : TypeId} {f : Nat} {fl : Field} (h : structField P t f = some fl) : ∃ fs, P.underlying t = some (.struct fs) ∧ fs[f]? = some fl := by
  unfold structField at h
  split at h <;> simp_all

def isBoolT (P : Program) (t : TypeId) : Bool := match P.underlying t with | some .bool => true | _ => false
theorem isBoolT_ok {P : Program} {t : TypeId} (h : isBoolT P t = true) : P.underlying t = some .bool := by
  unfold isBoolT at h
  split at h <;> simp_all
def isStrT (P : Program) (t : TypeId) : Bool := match P.underlying t with | some .string => true | _ => false
theorem isStrT_ok {P : Program} {t : TypeId} (h : isStrT P t = true) : P.underlying t = some .string := by
  unfold isStrT at h
  split at h <;> simp_all
def isIntT (P : Program) (k : IntKind) (t : TypeId) : Bool := match P.underlying t with | some (.int k') => k == k' | _ => false
theorem isIntT_ok {P : Program} {t : TypeId} {k : IntKind} (h : isIntT P k t = true) : P.underlying t = some (.int k) := by
  unfold isIntT at h
  split at h <;> simp_all
def notInt (P : Program) (t : TypeId) : Bool := match P.underlying t with | some (.int _) => false | some _ => true | none => false

def sizesT (P : Program) (e : TypeId) (n k bytes : Nat) : Bool :=
  match P.info? e with
  | some i => decide (0 < i.size) && i.size == k && (bytes == 0 || i.bytes == bytes) && decide (n * i.size ≤ 16777216)
  | none => false

def elemOK (P : Program) (t t2 : TypeId) (k bytes : Nat) : Bool :=
  match sliceElem P t with
  | some e => match P.info? e with
    | some i => match i.zero with
      | some z => i.size == k && i.bytes == bytes && z.cells.size == k && decide (0 < k) && decide (0 < bytes) && notInt P t2
      | none => false
    | none => false
  | none => false
theorem elemOK_ok {P : Program} {t t2 : TypeId} {k bytes : Nat} (h : elemOK P t t2 k bytes = true) : ∃ e i z, ElemT P t t2 k bytes e i z := by
  unfold elemOK at h
  split at h
  case h_2 => simp at h
  rename_i e he
  split at h
  case h_2 => simp at h
  rename_i i hi
  split at h
  case h_2 => simp at h
  rename_i z hz
  simp at h
  obtain ⟨⟨⟨⟨⟨h1, h2⟩, h3⟩, h4⟩, h5⟩, h6⟩ := h
  refine ⟨e, i, z, sliceElem_ok he, hi, hz, h1, h2, h3, h4, h5, ?_⟩
  unfold notInt at h6
  split at h6
  · simp at h6
  · rename_i d hd hne
    exact ⟨d, hne, fun kk e => hd kk e⟩
  · simp at h6

def chkOp (P : Program) (fm : Nat → Nat) (sl : List Nat) (tms : List (Option Nat)) (x : AOp) (o : Op) : Bool :=
  match x with
  | .move x => (match o with | .move y => chkO fm sl tms x y | _ => false)
  | .assign _ x => (match o with | .move y => chkO fm sl tms x y | .assign y => chkO fm sl tms x y | _ => false)
  | .pick c a b => (match o with | .pick c' a' b' => chkO fm sl tms c c' && chkO fm sl tms a a' && chkO fm sl tms b b' | _ => false)
  | .alloc z => (match o with | .alloc t => zeroT P fm z t | _ => false)
  | .box x => (match o with | .box _ y => chkO fm sl tms x y | _ => false)
  | .build z ps => (match o with | .build t qs => zeroT P fm z t && (P.built t []).isSome && chkP P fm sl tms t ps qs.toList | _ => false)
  | .buildSlice _ z n ps => (match o with | .buildSlice t n' qs => n == n' && (match sliceElem P t with | some e => zeroT P fm z e && sizesT P e n z.length 0 && chkS fm sl tms z.length ps qs.toList | none => false) | _ => false)
  | .load _ agg k x => (match o with | .load t y => chkO fm sl tms x y && aggT P t == some agg && sizeT P t == some k && decide (0 < k) | _ => false)
  | .store _ k x y => (match o with | .store t x' y' => chkO fm sl tms x x' && chkO fm sl tms y y' && sizeT P t == some k && decide (0 < k) | _ => false)
  | .bin op x y => (match o with | .binOp op' _ x' y' _ => op == op' && chkO fm sl tms x x' && chkO fm sl tms y y' | _ => false)
  | .eqb neg x y => (match o with | .binOp op' t x' y' _ => op' == (if neg then .neq else .eql) && isBoolT P t && chkO fm sl tms x x' && chkO fm sl tms y y' | _ => false)
  | .un op x => (match o with | .unOp op' _ x' => op == op' && chkO fm sl tms x x' | _ => false)
  | .conv k x => (match o with | .convert s d x' => (P.underlying s).isSome && isIntT P k d && chkO fm sl tms x x' | _ => false)
  | .toStr x => (match o with | .convert s d x' => (match sliceElem P s with | some e => isIntT P .u8 e && isStrT P d && chkO fm sl tms x x' | none => false) | _ => false)
  | .makeSlice _ z bytes x y => (match o with | .makeSlice t x' y' => (match sliceElem P t with | some e => zeroT P fm z e && (match P.info? e with | some i => i.bytes == bytes && decide (0 < i.size) | none => false) && chkO fm sl tms x x' && chkO fm sl tms y y' | none => false) | _ => false)
  | .slice k x lo hi => (match o with | .slice t x' lo' hi' none => sliceTy P k t && chkO fm sl tms x x' && chkM fm sl tms lo lo' && chkM fm sl tms hi hi' | _ => false)
  | .fieldAddr off x => (match o with | .fieldAddr t x' f => (match structField P t f with | some fl => fl.offset == off && (match sizeT P fl.type with | some k => decide (0 < k) | none => false) && chkO fm sl tms x x' | none => false) | _ => false)
  | .field agg off k x => (match o with | .field t x' f => (match structField P t f with | some fl => fl.offset == off && aggT P fl.type == some agg && sizeT P fl.type == some k && chkO fm sl tms x x' | none => false) | _ => false)
  | .indexAddr k x y => (match o with | .indexAddr t x' y' => (match sliceElem P t with | some e => sizeT P e == some k && decide (0 < k) && chkO fm sl tms x x' && chkO fm sl tms y y' | none => false) | _ => false)
  | .index x y => (match o with | .index t x' y' => isStrT P t && chkO fm sl tms x x' && chkO fm sl tms y y' | _ => false)
  | .extract i x => (match o with | .extract x' i' => i == i' && chkO fm sl tms x x' | _ => false)
  | .len str x => (match o with | .call { callee := .builtin .len, args := ⟨[x']⟩, argTypes := ⟨[t]⟩ } => lenTy P str t && chkO fm sl tms x x' | _ => false)
  | .append _ k bytes _ x y => (match o with | .call { callee := .builtin .append, args := ⟨[x', y']⟩, argTypes := ⟨[t, t2]⟩ } => elemOK P t t2 k bytes && chkO fm sl tms x x' && chkO fm sl tms y y' | _ => false)
  | .call g _ _ xs => (match o with | .call { callee := .value (.func f), args, argTypes := _ } => f == fm g && chkL fm sl tms xs args.toList | _ => false)
  | _ => false

theorem chkOp_ok {P : Program} {fm : Nat → Nat} {o : Oper} {a : Act} {w : World} {F : FZ} {rows rows' : Rows} {ms : Ms} {X : Cnt} {sl : List Nat} {tms : List (Option Nat)} {vars ts : List D} {res : D} (c : Cx w F fm rows ms X sl tms vars ts a)
    {callF : CallF} (hcall : CallOK P fm callF) {x : AOp} (hc : chkOp P fm sl tms x o.op = true) (h : exec callF vars ts rows x = some (res, rows')) : Does P fm o a w F rows ms X res rows' := by
  cases x with
  | move x =>
    simp only [chkOp] at hc
    split at hc
    case h_2 => simp at hc
    rename_i y ho
    simp only [exec, Option.some.injEq, Prod.mk.injEq] at h
    obtain ⟨rfl, rfl⟩ := h
    exact c.pure (v := a.eval y) (by simp [execOp, ho]) (c.opd hc)
  | assign m x =>
    simp only [chkOp] at hc
    simp only [exec] at h
    split at hc
    case h_3 => simp at hc
    · rename_i y ho
      exact does_assign (v := a.eval y) (by simp [execOp, ho]) (c.opd hc) h c.rel c.one c.fok
    · rename_i y ho
      exact does_assign (v := a.eval y) (by simp [execOp, ho]) (c.opd hc) h c.rel c.one c.fok
  | pick p q r =>
    simp only [chkOp] at hc
    split at hc
    case h_2 => simp at hc
    rename_i p' q' r' ho
    simp only [Bool.and_eq_true] at hc
    simp only [exec] at h
    split at h
    case h_2 => simp at h
    rename_i b hb
    simp only [Option.some.injEq, Prod.mk.injEq] at h
    obtain ⟨rfl, rfl⟩ := h
    exact does_pick c ho hc.1.1 hc.1.2 hc.2 hb
  | alloc z =>
    simp only [chkOp] at hc
    split at hc
    case h_2 => simp at hc
    rename_i t ho
    simp only [exec, Option.some.injEq, Prod.mk.injEq] at h
    obtain ⟨rfl, rfl⟩ := h
    exact does_alloc c ho hc
  | box x =>
    simp only [chkOp] at hc
    split at hc
    case h_2 => simp at hc
    rename_i t y ho
    simp only [exec] at h
    split at h
    · simp at h
    rename_i rows1 ds hg
    split at h
    case isFalse => simp at h
    rename_i hs
    simp only [Option.some.injEq, Prod.mk.injEq] at h
    obtain ⟨rfl, rfl⟩ := h
    exact does_box c ho hc hg hs
  | build z ps =>
    simp only [chkOp] at hc
    split at hc
    case h_2 => simp at hc
    rename_i t qs ho
    simp only [Bool.and_eq_true] at hc
    simp only [exec] at h
    split at h
    case isFalse => simp at h
    rename_i hu
    obtain ⟨cs, hf, he⟩ := map_some h
    simp only [Prod.mk.injEq] at he
    obtain ⟨rfl, rfl⟩ := he
    exact does_build c ho hc.1.1 hc.1.2 hc.2 hu hf
  | buildSlice m z n ps =>
    simp only [chkOp] at hc
    split at hc
    case h_2 => simp at hc
    rename_i t n' qs ho
    simp only [Bool.and_eq_true, beq_iff_eq] at hc
    obtain ⟨rfl, hc⟩ := hc
    split at hc
    case h_2 => simp at hc
    rename_i e he
    simp only [Bool.and_eq_true] at hc
    obtain ⟨⟨hz, hsz⟩, hp⟩ := hc
    unfold sizesT at hsz
    split at hsz
    case h_2 => simp at hsz
    rename_i i hi
    simp at hsz
    simp only [exec] at h
    split at h
    · simp at h
    rename_i rows1 es hg
    split at h
    · simp at h
    rename_i cs hf
    split at h
    case isFalse => simp at h
    rename_i hs
    exact does_buildSlice c ho (sliceElem_ok he) hz hi hsz.1.1 hsz.1.2 (by simpa using hsz.2) hp hg hf hs h
  | load m agg k x =>
    simp only [chkOp] at hc
    split at hc
    case h_2 => simp at hc
    rename_i t y ho
    simp only [Bool.and_eq_true, beq_iff_eq, decide_eq_true_eq] at hc
    obtain ⟨⟨⟨hx, ha⟩, hk⟩, hk0⟩ := hc
    simp only [exec] at h
    cases m with
    | own => exact does_take c ho hx ha hk hk0 h
    | share =>
      simp only at h
      split at h
      · simp at h
      rename_i d hd
      exact does_load (m := .share) c ho hx ha hk hk0 hd h
    | lend => simp at h
    | asis =>
      simp only at h
      obtain ⟨d, hd, he⟩ := map_some h
      simp only [Prod.mk.injEq] at he
      obtain ⟨rfl, rfl⟩ := he
      exact does_load (m := .asis) c ho hx ha hk hk0 hd rfl
  | store scalar k x y =>
    simp only [chkOp] at hc
    split at hc
    case h_2 => simp at hc
    rename_i t x' y' ho
    simp only [Bool.and_eq_true, beq_iff_eq, decide_eq_true_eq] at hc
    obtain ⟨⟨⟨hx, hy⟩, hk⟩, hk0⟩ := hc
    simp only [exec] at h
    obtain ⟨rs, hs, he⟩ := map_some h
    simp only [Prod.mk.injEq] at he
    obtain ⟨rfl, rfl⟩ := he
    exact does_store c ho hx hy hk hk0 hs
  | bin op x y =>
    simp only [chkOp] at hc
    split at hc
    case h_2 => simp at hc
    rename_i op' t x' y' z ho
    simp only [Bool.and_eq_true, beq_iff_eq] at hc
    obtain ⟨⟨rfl, hx⟩, hy⟩ := hc
    simp only [exec] at h
    obtain ⟨d, hd, he⟩ := map_some h
    simp only [Prod.mk.injEq] at he
    obtain ⟨rfl, rfl⟩ := he
    exact does_bin c ho hx hy hd
  | eqb neg x y =>
    simp only [chkOp] at hc
    split at hc
    case h_2 => simp at hc
    rename_i op' t x' y' z ho
    simp only [Bool.and_eq_true, beq_iff_eq] at hc
    obtain ⟨⟨⟨rfl, ht⟩, hx⟩, hy⟩ := hc
    simp only [exec] at h
    split at h
    case h_2 => simp at h
    rename_i p q hp hq
    simp only [Option.some.injEq, Prod.mk.injEq] at h
    obtain ⟨rfl, rfl⟩ := h
    exact does_eqb c ho (isBoolT_ok ht) hx hy hp hq
  | un op x =>
    simp only [chkOp] at hc
    split at hc
    case h_2 => simp at hc
    rename_i op' t x' ho
    simp only [Bool.and_eq_true, beq_iff_eq] at hc
    obtain ⟨rfl, hx⟩ := hc
    simp only [exec] at h
    obtain ⟨d, hd, he⟩ := map_some h
    simp only [Prod.mk.injEq] at he
    obtain ⟨rfl, rfl⟩ := he
    exact does_un c ho hx hd
  | conv k x =>
    simp only [chkOp] at hc
    split at hc
    case h_2 => simp at hc
    rename_i s d x' ho
    simp only [Bool.and_eq_true] at hc
    obtain ⟨⟨hs, hd⟩, hx⟩ := hc
    simp only [exec] at h
    split at h
    case h_2 => simp at h
    rename_i k' n hn
    simp only [Option.some.injEq, Prod.mk.injEq] at h
    obtain ⟨rfl, rfl⟩ := h
    exact does_conv c ho hs (isIntT_ok hd) hx hn
  | toStr x =>
    simp only [chkOp] at hc
    split at hc
    case h_2 => simp at hc
    rename_i s d x' ho
    split at hc
    case h_2 => simp at hc
    rename_i e he
    simp only [Bool.and_eq_true] at hc
    obtain ⟨⟨h8, hd⟩, hx⟩ := hc
    simp only [exec] at h
    obtain ⟨d, hd', he'⟩ := map_some h
    simp only [Prod.mk.injEq] at he'
    obtain ⟨rfl, rfl⟩ := he'
    exact does_toStr c ho (sliceElem_ok he) (isIntT_ok h8) (isStrT_ok hd) hx hd'
  | makeSlice m z bytes x y =>
    simp only [chkOp] at hc
    split at hc
    case h_2 => simp at hc
    rename_i t x' y' ho
    split at hc
    case h_2 => simp at hc
    rename_i e he
    simp only [Bool.and_eq_true] at hc
    obtain ⟨⟨⟨hz, hi⟩, hx⟩, hy⟩ := hc
    split at hi
    case h_2 => simp at hi
    rename_i i hi'
    simp at hi
    simp only [exec] at h
    split at h
    case h_2 => simp at h
    rename_i kl l kc n hl hn
    split at h
    case isFalse => simp at h
    rename_i hh
    exact does_makeSlice c ho (sliceElem_ok he) hz hi' hi.1 hi.2 hx hy hl hn hh.1 hh.2.1 hh.2.2.1 hh.2.2.2 h
  | slice k x lo hi =>
    simp only [chkOp] at hc
    split at hc
    case h_2 => simp at hc
    rename_i t x' lo' hi' ho
    simp only [Bool.and_eq_true] at hc
    obtain ⟨⟨⟨ht, hx⟩, hlo⟩, hhi⟩ := hc
    simp only [exec] at h
    obtain ⟨d, hd, he⟩ := map_some h
    simp only [Prod.mk.injEq] at he
    obtain ⟨rfl, rfl⟩ := he
    exact does_slice c ho ht hx hlo hhi hd
  | fieldAddr off x =>
    simp only [chkOp] at hc
    split at hc
    case h_2 => simp at hc
    rename_i t x' f ho
    split at hc
    case h_2 => simp at hc
    rename_i fl hfl
    simp only [Bool.and_eq_true, beq_iff_eq] at hc
    obtain ⟨⟨rfl, hk⟩, hx⟩ := hc
    split at hk
    case h_2 => simp at hk
    rename_i k hsz
    simp at hk
    obtain ⟨fs, h1, h2⟩ := structField_ok hfl
    simp only [exec] at h
    split at h
    case h_3 => simp at h
    all_goals
      rename_i hd
      simp only [Option.some.injEq, Prod.mk.injEq] at h
      obtain ⟨rfl, rfl⟩ := h
      exact does_fieldAddr c ho h1 h2 hsz hk hx (by rw [hd])
  | field agg off k x =>
    simp only [chkOp] at hc
    split at hc
    case h_2 => simp at hc
    rename_i t x' f ho
    split at hc
    case h_2 => simp at hc
    rename_i fl hfl
    simp only [Bool.and_eq_true, beq_iff_eq] at hc
    obtain ⟨⟨⟨rfl, ha⟩, hk⟩, hx⟩ := hc
    obtain ⟨fs, h1, h2⟩ := structField_ok hfl
    simp only [exec] at h
    split at h
    case h_2 => simp at h
    rename_i cs hd
    split at h
    case isFalse => simp at h
    cases agg with
    | true =>
      simp only [if_true, Option.some.injEq, Prod.mk.injEq] at h
      obtain ⟨rfl, rfl⟩ := h
      exact does_field c ho h1 h2 ha hk hx hd (by simp)
    | false =>
      simp only [Bool.false_eq_true, if_false] at h
      obtain ⟨d, hd', he⟩ := map_some h
      simp only [Prod.mk.injEq] at he
      obtain ⟨rfl, rfl⟩ := he
      exact does_field c ho h1 h2 ha hk hx hd (by simpa using hd')
  | indexAddr k x y =>
    simp only [chkOp] at hc
    split at hc
    case h_2 => simp at hc
    rename_i t x' y' ho
    split at hc
    case h_2 => simp at hc
    rename_i e he
    simp only [Bool.and_eq_true, beq_iff_eq, decide_eq_true_eq] at hc
    obtain ⟨⟨⟨hk, hk0⟩, hx⟩, hy⟩ := hc
    simp only [exec] at h
    obtain ⟨d, hd, he'⟩ := map_some h
    simp only [Prod.mk.injEq] at he'
    obtain ⟨rfl, rfl⟩ := he'
    exact does_indexAddr c ho (sliceElem_ok he) hk hk0 hx hy hd
  | index x y =>
    simp only [chkOp] at hc
    split at hc
    case h_2 => simp at hc
    rename_i t x' y' ho
    simp only [Bool.and_eq_true] at hc
    obtain ⟨⟨ht, hx⟩, hy⟩ := hc
    simp only [exec] at h
    split at h
    case h_2 => simp at h
    rename_i s k i hs hi
    split at h
    case isFalse => simp at h
    rename_i hh
    obtain ⟨d, hd, he⟩ := map_some h
    simp only [Prod.mk.injEq] at he
    obtain ⟨rfl, rfl⟩ := he
    exact does_index c ho (isStrT_ok ht) hx hy hs hi hh.1 hd
  | extract i x =>
    simp only [chkOp] at hc
    split at hc
    case h_2 => simp at hc
    rename_i x' i' ho
    simp only [Bool.and_eq_true, beq_iff_eq] at hc
    obtain ⟨rfl, hx⟩ := hc
    simp only [exec] at h
    split at h
    case h_2 => simp at h
    rename_i vs hv
    obtain ⟨d, hd, he⟩ := map_some h
    simp only [Prod.mk.injEq] at he
    obtain ⟨rfl, rfl⟩ := he
    exact does_extract c ho hx hv hd
  | len str x =>
    simp only [chkOp] at hc
    split at hc
    case h_2 => simp at hc
    rename_i x' t ho
    simp only [Bool.and_eq_true] at hc
    simp only [exec] at h
    obtain ⟨d, hd, he⟩ := map_some h
    simp only [Prod.mk.injEq] at he
    obtain ⟨rfl, rfl⟩ := he
    exact does_len c ho rfl rfl rfl hc.1 hc.2 hd
  | append scalar k bytes take x y =>
    simp only [chkOp] at hc
    split at hc
    case h_2 => simp at hc
    rename_i x' y' t t2 ho
    simp only [Bool.and_eq_true] at hc
    obtain ⟨⟨he, hx⟩, hy⟩ := hc
    obtain ⟨e, i, z, hE⟩ := elemOK_ok he
    simp only [exec] at h
    exact does_append c ho rfl rfl rfl hE hx hy h
  | call g modes m xs =>
    simp only [chkOp] at hc
    split at hc
    case h_2 => simp at hc
    rename_i f args tys ho
    simp only [Bool.and_eq_true, beq_iff_eq] at hc
    obtain ⟨rfl, hx⟩ := hc
    simp only [exec] at h
    exact does_call c hcall ho rfl rfl hx h
  | _ => simp [chkOp] at hc
end Av
namespace Av
open Go

/-! ### Slots -/
structure Slots (sl : List Nat) (tms : List (Option Nat)) (N : Nat) : Prop where
  vv : ∀ (k k' s : Nat), sl[k]? = some s → sl[k']? = some s → k = k'
  tt : ∀ (i i' s : Nat), tms[i]? = some (some s) → tms[i']? = some (some s) → i = i'
  vt : ∀ (k i s : Nat), sl[k]? = some s → tms[i]? = some (some s) → False
  vN : ∀ (k s : Nat), sl[k]? = some s → s < N
  tN : ∀ (i s : Nat), tms[i]? = some (some s) → s < N

/-- The sum of 2^s, if they differ. -/
def mask : List Nat → Nat → Option Nat
  | [], m => some m
  | s :: l, m => if m.testBit s then none else mask l (m ||| 2 ^ s)

theorem mask_nodup : ∀ {l : List Nat} {m m' : Nat}, mask l m = some m' → (∀ s ∈ l, m.testBit s = false) ∧ l.Nodup
  | [], _, _, _ => ⟨by simp, by simp⟩
  | s :: l, m, m', h => by
    simp only [mask] at h
    split at h
    · simp at h
    rename_i hs
    have hs : m.testBit s = false := by simpa using hs
    obtain ⟨h1, h2⟩ := mask_nodup h
    have h3 : ∀ t ∈ l, m.testBit t = false ∧ t ≠ s := fun t ht => by
      have := h1 t ht
      rw [Nat.testBit_or, Nat.testBit_two_pow] at this
      simp at this
      exact ⟨this.1, fun e => this.2 e.symm⟩
    refine ⟨fun t ht => ?_, ?_⟩
    · rcases List.mem_cons.1 ht with e | e
      · subst e; exact hs
      · exact (h3 t e).1
    · rw [List.nodup_cons]
      exact ⟨fun hm => (h3 s hm).2 rfl, h2⟩

theorem nodup_get {l : List Nat} (h : l.Nodup) {i j s : Nat} (hi : l[i]? = some s) (hj : l[j]? = some s) : i = j := by
  obtain ⟨hi1, hi2⟩ := List.getElem?_eq_some_iff.1 hi
  obtain ⟨hj1, hj2⟩ := List.getElem?_eq_some_iff.1 hj
  have a := h.idxOf_getElem i hi1
  have b := h.idxOf_getElem j hj1
  rw [hi2] at a
  rw [hj2] at b
  exact a.symm.trans b

theorem filterMap_get : ∀ {tms : List (Option Nat)} {i i' s : Nat}, (tms.filterMap id).Nodup → tms[i]? = some (some s) → tms[i']? = some (some s) → i = i'
  | [], _, _, _, _, h, _ => by simp at h
  | none :: tms, 0, _, _, _, h, _ => by simp at h
  | none :: tms, _ + 1, 0, _, _, _, h => by simp at h
  | none :: tms, i + 1, i' + 1, s, hn, h, h' => by
    simp at h h'
    rw [filterMap_get (by simpa using hn) h h']
  | some t :: tms, 0, 0, _, _, _, _ => rfl
  | some t :: tms, 0, i' + 1, s, hn, h, h' => by
    simp at h h'
    subst h
    simp only [List.filterMap_cons, id] at hn
    exact absurd (List.mem_filterMap.2 ⟨some t, List.mem_of_getElem? h', rfl⟩ : t ∈ tms.filterMap id) (List.nodup_cons.1 hn).1
  | some t :: tms, i + 1, 0, s, hn, h, h' => by
    simp at h h'
    subst h'
    simp only [List.filterMap_cons, id] at hn
    exact absurd (List.mem_filterMap.2 ⟨some t, List.mem_of_getElem? h, rfl⟩ : t ∈ tms.filterMap id) (List.nodup_cons.1 hn).1
  | some t :: tms, i + 1, i' + 1, s, hn, h, h' => by
    simp at h h'
    simp only [List.filterMap_cons, id] at hn
    rw [filterMap_get (List.nodup_cons.1 hn).2 h h']

def chkSlots (sl : List Nat) (tms : List (Option Nat)) (N : Nat) : Bool :=
  (mask (sl ++ tms.filterMap id) 0).isSome && (sl ++ tms.filterMap id).all fun s => decide (s < N)

theorem chkSlots_ok {sl : List Nat} {tms : List (Option Nat)} {N : Nat} (h : chkSlots sl tms N = true) : Slots sl tms N := by
  unfold chkSlots at h
  simp only [Bool.and_eq_true, List.all_eq_true, decide_eq_true_eq] at h
  obtain ⟨h1, h2⟩ := h
  obtain ⟨m, hm⟩ := Option.isSome_iff_exists.1 h1
  have hn := (mask_nodup hm).2
  rw [List.nodup_append] at hn
  obtain ⟨n1, n2, n3⟩ := hn
  have hmem : ∀ {i s : Nat}, tms[i]? = some (some s) → s ∈ tms.filterMap id := fun h => List.mem_filterMap.2 ⟨_, List.mem_of_getElem? h, rfl⟩
  exact ⟨fun k k' s h h' => nodup_get n1 h h', fun i i' s h h' => filterMap_get n2 h h', fun k i s h h' => n3 s (List.mem_of_getElem? h) s (hmem h') rfl,
    fun k s h => h2 s (by simp [List.mem_of_getElem? h]), fun i s h => h2 s (List.mem_append_right _ (hmem h))⟩

theorem slotV_put {a : Act} {d s : Nat} {v : Value} (hd : d < a.tmps.size) : slotV (a.put (some d) v) s = if s = d then v else slotV a s := by
  unfold slotV Act.put
  simp only
  split
  · rename_i h; subst h; simp [hd]
  · rename_i h; simp [Array.getElem?_setIfInBounds_ne (Ne.symm h)]

theorem getD_set_ne' {l : List D} {i j : Nat} {d : D} (h : i ≠ j) : (l.set i d).getD j .undef = l.getD j .undef := by
  simp [List.getD, h]
theorem getD_set_or {l : List D} {i : Nat} {d : D} : (l.set i d).getD i .undef = d ∨ (l.set i d).getD i .undef = .undef := by
  simp only [List.getD, List.getElem?_set]
  by_cases h : i < l.length
  · simp [h]
  · simp [h]

/-- What is kept through a step. -/
theorem Fr.keep {w w' : World} {F F' : FZ} {fm : Nat → Nat} {L L' : Loc} {sl : List Nat} {tms : List (Option Nat)} {vars ts : List D} {a : Act} (h : Fr w F fm L sl tms vars ts a) (hk : Keep w F w' F' (fun _ => 0)) (hL : LocLe L L') : Fr w' F' fm L' sl tms vars ts a :=
  ⟨fun k s hs => (h.vars k s hs).keep hk hL, fun i s hs => (h.ts i s hs).keep hk hL⟩

theorem Fr.put_t {w : World} {F : FZ} {fm : Nat → Nat} {L : Loc} {sl : List Nat} {tms : List (Option Nat)} {N : Nat} {vars ts : List D} {a : Act} {i : Nat} {o : Option Nat} {d : D} {v : Value} (hS : Slots sl tms N) (hN : N ≤ a.tmps.size) (h : Fr w F fm L sl tms vars ts a) (hi : tms[i]? = some o) (hv : Rel w F fm L d v (fun _ => 0)) :
    Fr w F fm L sl tms vars (ts.set i d) (a.put o v) := by
  cases o with
  | none =>
    refine ⟨h.vars, fun j s hs => ?_⟩
    by_cases e : i = j
    · subst e; rw [hi] at hs; simp at hs
    · rw [getD_set_ne' e]; exact h.ts j s hs
  | some t =>
    have ht := hS.tN i t hi
    refine ⟨fun k s hs => ?_, fun j s hs => ?_⟩
    · rw [slotV_put (by omega), if_neg fun (e : s = t) => hS.vt k i t (by rw [← e]; exact hs) hi]
      exact h.vars k s hs
    · rw [slotV_put (by omega)]
      by_cases e : i = j
      · subst e
        rw [hi] at hs
        have : t = s := by simpa using hs
        subst this
        rw [if_pos rfl]
        rcases getD_set_or (l := ts) (i := i) (d := d) with e | e <;> rw [e]
        · exact hv
        · exact Rel.undef0
      · rw [getD_set_ne' e, if_neg fun (e2 : s = t) => e (hS.tt i j t hi (by rw [← e2]; exact hs))]
        exact h.ts j s hs

theorem Fr.put_v {w : World} {F : FZ} {fm : Nat → Nat} {L : Loc} {sl : List Nat} {tms : List (Option Nat)} {N : Nat} {vars ts : List D} {a : Act} {k t : Nat} {d : D} {v : Value} (hS : Slots sl tms N) (hN : N ≤ a.tmps.size) (h : Fr w F fm L sl tms vars ts a) (hk : sl[k]? = some t) (hv : Rel w F fm L d v (fun _ => 0)) :
    Fr w F fm L sl tms (vars.set k d) ts (a.put (some t) v) := by
  have ht := hS.vN k t hk
  refine ⟨fun j s hs => ?_, fun i s hs => ?_⟩
  · rw [slotV_put (by omega)]
    by_cases e : k = j
    · subst e
      rw [hk] at hs
      have : t = s := by simpa using hs
      subst this
      rw [if_pos rfl]
      rcases getD_set_or (l := vars) (i := k) (d := d) with e | e <;> rw [e]
      · exact hv
      · exact Rel.undef0
    · rw [getD_set_ne' e, if_neg fun (e2 : s = t) => e (hS.vv k j t hk (by rw [← e2]; exact hs))]
      exact h.vars j s hs
  · rw [slotV_put (by omega), if_neg fun (e : s = t) => hS.vt k i t hk (by rw [← e]; exact hs)]
    exact h.ts i s hs

theorem put_size (a : Act) (d : Option Nat) (v : Value) : (a.put d v).tmps.size = a.tmps.size := by
  cases d <;> simp [Act.put]
theorem put_defers (a : Act) (d : Option Nat) (v : Value) : (a.put d v).defers = a.defers := by
  cases d <;> simp [Act.put]

/-! ### Where a function's run stands -/
structure Entry where
  w : World
  F : FZ
  L : Loc
  X : Cnt

def Live (fm : Nat → Nat) (sl : List Nat) (N : Nat) (E : Entry) (st : St) (tms : List (Option Nat)) (a : Act) (w : World) : Prop :=
  ∃ F ms X, Cx w F fm st.rows ms X sl tms st.vars st.ts a ∧ Ext E.w E.F E.L E.X w F (mkLoc w st.rows ms) X ∧ N ≤ a.tmps.size ∧ a.defers = [] ∧ ∀ r, E.L.ok r ↔ r < st.base

/-! ### Regions that keep their order -/
def guardEq : Option (Nat × Bool) → Option (Nat × Bool) → Bool
  | none, none => true
  | some (i, b), some (j, c) => i == j && b == c
  | _, _ => false
theorem guardEq_ok : ∀ {x y : Option (Nat × Bool)}, guardEq x y = true → x = y
  | none, none, _ => rfl
  | some (i, b), some (j, c), h => by
    simp [guardEq] at h
    rw [h.1, h.2]
  | none, some _, h => by simp [guardEq] at h
  | some _, none, h => by simp [guardEq] at h

def tmsOf : List AOper → List Oper → List (Option Nat)
  | a :: as, o :: os => (if a.dst.isSome then none else o.dst) :: tmsOf as os
  | _, _ => []
theorem tmsOf_get : ∀ {as : List AOper} {os : List Oper} {i : Nat} {s : Nat}, (tmsOf as os)[i]? = some (some s) → ∃ o, os[i]? = some o ∧ o.dst = some s
  | a :: as, o :: os, 0, s, h => by
    simp only [tmsOf, List.getElem?_cons_zero, Option.some.injEq] at h
    split at h
    · simp at h
    · exact ⟨o, rfl, h⟩
  | a :: as, o :: os, i + 1, s, h => by
    simp only [tmsOf, List.getElem?_cons_succ] at h
    obtain ⟨o', h1, h2⟩ := tmsOf_get h
    exact ⟨o', by simpa using h1, h2⟩
  | [], os, i, s, h => by simp [tmsOf] at h
  | a :: as, [], i, s, h => by simp [tmsOf] at h

def chkOper (P : Program) (fm : Nat → Nat) (sl : List Nat) (tms : List (Option Nat)) (i : Nat) (x : AOper) (o : Oper) : Bool :=
  chkOp P fm sl tms x.op o.op && guardEq x.guard o.guard &&
  (match x.guard with | some (j, _) => (match tms[j]? with | some (some _) => true | _ => false) | none => true) &&
  (match x.dst with
   | none => tms[i]? == some o.dst
   | some k => (match o.dst with | some d => sl[k]? == some d | none => false))

def chkOpers (P : Program) (fm : Nat → Nat) (sl : List Nat) (tms : List (Option Nat)) : Nat → List AOper → List Oper → Bool
  | _, [], [] => true
  | i, x :: xs, o :: os => chkOper P fm sl tms i x o && chkOpers P fm sl tms (i + 1) xs os
  | _, _, _ => false

theorem chkOpers_get {P : Program} {fm : Nat → Nat} {sl : List Nat} {tms : List (Option Nat)} : ∀ {xs : List AOper} {os : List Oper} {i : Nat}, chkOpers P fm sl tms i xs os = true → xs.length = os.length ∧ ∀ j x o, xs[j]? = some x → os[j]? = some o → chkOper P fm sl tms (i + j) x o = true
  | [], [], _, _ => ⟨rfl, fun j x o h => by simp at h⟩
  | x :: xs, o :: os, i, h => by
    simp only [chkOpers, Bool.and_eq_true] at h
    obtain ⟨h1, h2⟩ := chkOpers_get h.2
    refine ⟨by simp [h1], fun j y p hy hp => ?_⟩
    cases j with
    | zero => simp at hy hp; subst hy hp; exact h.1
    | succ j =>
      simp at hy hp
      have := h2 j y p hy hp
      rw [show i + (j + 1) = i + 1 + j by omega]
      exact this
  | [], _ :: _, _, h => by simp [chkOpers] at h
  | _ :: _, [], _, h => by simp [chkOpers] at h

section
variable {P : Program} {fm : Nat → Nat} {sl : List Nat} {tms : List (Option Nat)} {N : Nat}

/-- Guards. -/
theorem wanted_ok {w : World} {F : FZ} {L : Loc} {vars ts : List D} {a : Act} {cops : Array Oper} {x : AOper} {o : Oper} {c : Bool} (h : Fr w F fm L sl tms vars ts a) (hg : x.guard = o.guard)
    (hj : ∀ j b, x.guard = some (j, b) → ∃ s oj, tms[j]? = some (some s) ∧ cops[j]? = some oj ∧ oj.dst = some s) (hw : wanted ts x.guard = some c) : Region.wanted o (yielded cops a.tmps) = c := by
  unfold Region.wanted
  rw [← hg]
  cases hx : x.guard with
  | none => rw [hx] at hw; simp [wanted] at hw; subst hw; rfl
  | some jb =>
    obtain ⟨j, b⟩ := jb
    obtain ⟨s, oj, h1, h2, h3⟩ := hj j b hx
    have hr := h.ts j s h1
    rw [hx] at hw
    simp only [wanted] at hw
    have hy : yielded cops a.tmps j = match a.tmps[s]? with | some (.bool b) => some b | _ => none := by
      unfold yielded
      rw [h2]
      simp only [Option.bind_some, h3]
      rfl
    show (yielded cops a.tmps j == some b) = c
    split at hw
    · rename_i c' hc
      rw [hc] at hr
      have hv := hr.bool_inv
      have : a.tmps[s]? = some (.bool c') := by
        unfold slotV at hv
        cases ht : a.tmps[s]? with
        | none => simp [ht, undef] at hv
        | some v => simp [ht] at hv; rw [hv]
      simp only [Option.some.injEq] at hw
      subst hw
      rw [hy, this]
      cases c' <;> cases b <;> rfl
    · rename_i hc
      rw [hc] at hr
      unfold Rel at hr
      obtain ⟨vs, hv, hr⟩ := hr
      unfold RelL at hr
      obtain ⟨rfl, _⟩ := hr
      simp only [Option.some.injEq] at hw
      subst hw
      have : yielded cops a.tmps j = none := by
        rw [hy]
        unfold slotV at hv
        cases ht : a.tmps[s]? with
        | none => rfl
        | some v => simp [ht] at hv; rw [hv]
      simp [this]
    · simp at hw

/-- One operation. -/
theorem oper_ok {callF : CallF} (hcall : CallOK P fm callF) (hS : Slots sl tms N) {E : Entry} {st : St} {a : Act} {w : World} {x : AOper} {o : Oper} {i : Nat} {v : D} {rows' : Rows} (hc : chkOper P fm sl tms i x o = true) (hl : Live fm sl N E st tms a w)
    (h : exec callF st.vars st.ts st.rows x.op = some (v, rows')) (K : Act → World → Prop) (Q : Exit → Act → World → Prop) (hK : ∀ a' w', Live fm sl N E (put i x.dst v rows' st) tms a' w' → K a' w') : o.wp P a w K Q := by
  obtain ⟨F, ms, X, cx, ext, hN, hdf, hb⟩ := hl
  simp only [chkOper, Bool.and_eq_true] at hc
  obtain ⟨⟨⟨hop, _⟩, _⟩, hdst⟩ := hc
  refine chkOp_ok cx hcall hop h K Q fun u w' F' ms' X' r1 r2 r3 r4 r5 => hK _ _ ?_
  have hfr := cx.fr.keep r4.keep0 r4.loc
  cases hx : x.dst with
  | none =>
    rw [hx] at hdst
    simp only [beq_iff_eq] at hdst
    exact ⟨F', ms', X', ⟨r1, r2, r3, hfr.put_t hS hN hdst r5⟩, ext.trans r4, by rw [put_size]; exact hN, by rw [put_defers]; exact hdf, hb⟩
  | some k =>
    rw [hx] at hdst
    dsimp only at hdst
    split at hdst
    case h_2 => simp at hdst
    rename_i d ho
    simp only [beq_iff_eq] at hdst
    rw [ho]
    exact ⟨F', ms', X', ⟨r1, r2, r3, hfr.put_v hS hN hdst r5⟩, ext.trans r4, by rw [put_size]; exact hN, by rw [put_defers]; exact hdf, hb⟩

theorem passed_ok (hS : Slots sl tms N) {E : Entry} {st : St} {a : Act} {w : World} {x : AOper} {o : Oper} {i : Nat} (hc : chkOper P fm sl tms i x o = true) (hl : Live fm sl N E st tms a w) :
    Live fm sl N E (passed i x.dst st) tms (a.put o.dst undef) w := by
  obtain ⟨F, ms, X, cx, ext, hN, hdf, hb⟩ := hl
  simp only [chkOper, Bool.and_eq_true] at hc
  obtain ⟨_, hdst⟩ := hc
  cases hx : x.dst with
  | none =>
    rw [hx] at hdst
    simp only [beq_iff_eq] at hdst
    exact ⟨F, ms, X, ⟨cx.rel, cx.one, cx.fok, cx.fr.put_t hS hN hdst (by unfold Rel; exact ⟨[], rfl, RelL.nil⟩)⟩, ext, by rw [put_size]; exact hN, by rw [put_defers]; exact hdf, hb⟩
  | some k =>
    rw [hx] at hdst
    dsimp only at hdst
    split at hdst
    case h_2 => simp at hdst
    rename_i d ho
    simp only [beq_iff_eq] at hdst
    rw [ho]
    exact ⟨F, ms, X, ⟨cx.rel, cx.one, cx.fok, cx.fr.put_v hS hN hdst Rel.undef0⟩, ext, by rw [put_size]; exact hN, by rw [put_defers]; exact hdf, hb⟩

theorem guard_of {as : List AOper} {cops : Array Oper} (ht : tms = tmsOf as cops.toList) {x : AOper} {o : Oper} {i : Nat} (hc : chkOper P fm sl tms i x o = true) :
    x.guard = o.guard ∧ ∀ j b, x.guard = some (j, b) → ∃ s oj, tms[j]? = some (some s) ∧ cops[j]? = some oj ∧ oj.dst = some s := by
  simp only [chkOper, Bool.and_eq_true] at hc
  obtain ⟨⟨⟨_, hg⟩, hj⟩, _⟩ := hc
  refine ⟨guardEq_ok hg, fun j b hx => ?_⟩
  rw [hx] at hj
  simp only at hj
  split at hj
  case h_2 => simp at hj
  rename_i s hs
  rw [ht] at hs
  obtain ⟨oj, h1, h2⟩ := tmsOf_get hs
  exact ⟨s, oj, by rw [ht]; exact hs, by rw [← Array.getElem?_toList]; exact h1, h2⟩

theorem ops_ok {callF : CallF} (hcall : CallOK P fm callF) (hS : Slots sl tms N) {E : Entry} {as : List AOper} {cops : Array Oper} {Q : Exit → Act → World → Prop} (ht : tms = tmsOf as cops.toList) (hall : chkOpers P fm sl tms 0 as cops.toList = true) :
    ∀ (n i : Nat) {st st' : St} {a : Act} {w : World}, i + n = as.length → Live fm sl N E st tms a w → runOps callF i (as.drop i) st = some st' → (∀ a' w', Live fm sl N E st' tms a' w' → Q .normal a' w') → wpOps P cops Q (List.range' i n) a w
  | 0, i, st, st', a, w, hn, hl, h, hQ => by
    have : as.drop i = [] := List.drop_eq_nil_of_le (by omega)
    rw [this] at h
    simp only [runOps, Option.some.injEq] at h
    subst h
    simp only [List.range'_zero, wpOps]
    exact hQ _ _ hl
  | n + 1, i, st, st', a, w, hn, hl, h, hQ => by
    have hi : i < as.length := by omega
    obtain ⟨hlen, hget⟩ := chkOpers_get hall
    have hi' : i < cops.size := by rw [← Array.length_toList]; omega
    have hd : as.drop i = as[i] :: as.drop (i + 1) := (List.drop_eq_getElem_cons hi)
    rw [hd] at h
    have hc := hget i as[i] cops[i] (List.getElem?_eq_getElem hi) (by rw [Array.getElem?_toList]; simp [hi'])
    rw [Nat.zero_add] at hc
    obtain ⟨hg, hj⟩ := guard_of ht hc
    simp only [List.range'_succ, wpOps, Array.getElem?_eq_getElem hi']
    simp only [runOps] at h
    obtain ⟨F, ms, X, cx, rest⟩ := id hl
    split at h
    · rename_i hw
      rw [wanted_ok cx.fr hg hj hw]
      simp only [if_true]
      split at h
      · simp at h
      rename_i v rows' he
      exact .inl (oper_ok hcall hS hc hl he _ _ fun a' w' hl' => ops_ok hcall hS ht hall n (i + 1) (by omega) hl' h hQ)
    · rename_i hw
      rw [wanted_ok cx.fr hg hj hw]
      simp only [Bool.false_eq_true, if_false]
      exact ops_ok hcall hS ht hall n (i + 1) (by omega) (passed_ok hS hc hl) h hQ
    · simp at h

/-- A region that keeps its order. -/
theorem region_ok {callF : CallF} (hcall : CallOK P fm callF) {E : Entry} {as : List AOper} {cops : Array Oper} {id : Nat} {Q : Exit → Act → World → Prop} {tms0 : List (Option Nat)} {st st' : St} {a : Act} {w : World}
    (hS : chkSlots sl (tmsOf as cops.toList) N = true) (hall : chkOpers P fm sl (tmsOf as cops.toList) 0 as cops.toList = true) (hl : Live fm sl N E st tms0 a w)
    (h : runOps callF 0 as { st with ts := List.replicate as.length .undef } = some st') (hQ : ∀ a' w', Live fm sl N E st' (tmsOf as cops.toList) a' w' → Q .normal a' w') : (Code.region id cops false).wp P Q a w := by
  refine wp_region ?_
  obtain ⟨hlen, _⟩ := chkOpers_get hall
  rw [List.range_eq_range', show cops.size = as.length by rw [hlen, Array.length_toList]]
  obtain ⟨F, ms, X, cx, ext, hN, hdf, hb⟩ := hl
  refine ops_ok hcall (chkSlots_ok hS) rfl hall as.length 0 (by omega) (st := { st with ts := List.replicate as.length .undef }) ⟨F, ms, X, ⟨cx.rel, cx.one, cx.fok, ⟨cx.fr.vars, fun i s hs => ?_⟩⟩, ext, hN, hdf, hb⟩ (by simpa using h) hQ
  have : (List.replicate as.length D.undef).getD i .undef = .undef := by
    simp only [List.getD, List.getElem?_replicate]
    split <;> rfl
  rw [this]
  exact Rel.undef0
end
end Av
namespace Av
open Go

/-! ### Operations look at their operands alone -/
theorem exec_congr {callF : CallF} {vars ts vars' ts' : List D} {rows : Rows} {op : AOp} (h : ∀ x ∈ op.opds, opd vars ts x = opd vars' ts' x) : exec callF vars ts rows op = exec callF vars' ts' rows op := by
  cases op <;> simp only [AOp.opds] at h <;> simp only [exec]
  case move x => rw [h x (by simp)]
  case assign m x => rw [h x (by simp)]
  case pick c a b => rw [h c (by simp), h a (by simp), h b (by simp)]
  case box x => rw [h x (by simp)]
  case build z ps =>
    have e1 : (ps.all fun p => !isU (opd vars ts p.2.2)) = ps.all fun p => !isU (opd vars' ts' p.2.2) := by
      rw [Bool.eq_iff_iff]
      simp only [List.all_eq_true]
      exact ⟨fun k p hp => by rw [← h p.2.2 (List.mem_map.2 ⟨p, hp, rfl⟩)]; exact k p hp, fun k p hp => by rw [h p.2.2 (List.mem_map.2 ⟨p, hp, rfl⟩)]; exact k p hp⟩
    have e2 : (ps.map fun p => (p.1, p.2.1, comps (opd vars ts p.2.2))) = ps.map fun p => (p.1, p.2.1, comps (opd vars' ts' p.2.2)) := List.map_congr_left fun p hp => by rw [h p.2.2 (List.mem_map.2 ⟨p, hp, rfl⟩)]
    rw [e1, e2]
  case buildSlice m z n ps =>
    have e2 : (ps.map fun p => D.agg (comps (opd vars ts p.2))) = ps.map fun p => D.agg (comps (opd vars' ts' p.2)) := List.map_congr_left fun p hp => by rw [h p.2 (List.mem_map.2 ⟨p, hp, rfl⟩)]
    rw [e2]
  case load m agg k a => rw [h a (by simp)]
  case store s k a x => rw [h a (by simp), h x (by simp)]
  case bin op x y => rw [h x (by simp), h y (by simp)]
  case eqb n x y => rw [h x (by simp), h y (by simp)]
  case eqs n x y => rw [h x (by simp), h y (by simp)]
  case un op x => rw [h x (by simp)]
  case conv k x => rw [h x (by simp)]
  case toBytes m x => rw [h x (by simp)]
  case toStr x => rw [h x (by simp)]
  case same x => rw [h x (by simp)]
  case makeSlice m z b l c => rw [h l (by simp), h c (by simp)]
  case slice k x lo hi =>
    rw [h x (by simp)]
    have e1 : lo.map (opd vars ts) = lo.map (opd vars' ts') := by cases lo with
      | none => rfl
      | some l => simp [h l (by simp)]
    have e2 : hi.map (opd vars ts) = hi.map (opd vars' ts') := by cases hi with
      | none => rfl
      | some l => simp [h l (by simp)]
    rw [e1, e2]
  case fieldAddr o x => rw [h x (by simp)]
  case field a o k x => rw [h x (by simp)]
  case indexAddr k x i => rw [h x (by simp), h i (by simp)]
  case index x i => rw [h x (by simp), h i (by simp)]
  case extract i x => rw [h x (by simp)]
  case len s x => rw [h x (by simp)]
  case append s k b t x y => rw [h x (by simp), h y (by simp)]
  case mm m xs =>
    have e : xs.map (opd vars ts) = xs.map (opd vars' ts') := List.map_congr_left h
    rw [e]
  case nilCheck x => rw [h x (by simp)]
  case makeFn g cs =>
    have e : cs.map (opd vars ts) = cs.map (opd vars' ts') := List.map_congr_left h
    rw [e]
  case call g ms m xs =>
    have e : xs.map (opd vars ts) = xs.map (opd vars' ts') := List.map_congr_left h
    rw [e]
  case callV f ms m xs =>
    have e : xs.map (opd vars ts) = xs.map (opd vars' ts') := List.map_congr_left fun x hx => h x (by simp [hx])
    rw [h f (by simp), e]

theorem maskD_undef (l : List Nat) : maskD l .undef = .undef := by simp [maskD, within, mapD]
theorem getD_mask {l : List Nat} {ds : List D} {i : Nat} : (ds.map (maskD l)).getD i .undef = maskD l (ds.getD i .undef) := by
  simp only [List.getD, List.getElem?_map]
  cases ds[i]? with
  | none => simp [maskD_undef]
  | some d => rfl
theorem opd_mask {l : List Nat} {vars ts : List D} {x : Opd} : opd (vars.map (maskD l)) (ts.map (maskD l)) x = match x with | .c d => d | x => maskD l (opd vars ts x) := by
  cases x with
  | v i => exact getD_mask
  | t i => exact getD_mask
  | c d => rfl
theorem opd_mask_congr {l : List Nat} {vars ts vars' ts' : List D} {x : Opd} (h : opd vars ts x = opd vars' ts' x) : opd (vars.map (maskD l)) (ts.map (maskD l)) x = opd (vars'.map (maskD l)) (ts'.map (maskD l)) x := by
  rw [opd_mask, opd_mask]
  cases x with
  | v i => simp only; rw [h]
  | t i => simp only; rw [h]
  | c d => rfl

theorem opIds_congr {vars ts vars' ts' : List D} {op : AOp} (h : ∀ x ∈ op.opds, opd vars ts x = opd vars' ts' x) : opIds vars ts op = opIds vars' ts' op := by
  unfold opIds
  rw [List.map_congr_left h]

/-! ### Operations look at few rows -/
theorem theRow_get {rows : Rows} {r : Nat} : theRow rows r = getRow rows r := by
  unfold theRow getRow
  simp only [List.getD]
  cases rows[r]? with
  | none => rfl
  | some x => cases x <;> rfl

theorem cellsAt_congr {rows rows2 : Rows} {r : Nat} (h : getRow rows2 r = getRow rows r) (p : List Nat) (v : Nat) : cellsAt rows2 r p v = cellsAt rows r p v := by
  unfold cellsAt; rw [theRow_get, theRow_get, h]

theorem exec_still {callF : CallF} {vars ts : List D} {rows rows' : Rows} {op : AOp} {v : D} (hg : grows op = false) (h : exec callF vars ts rows op = some (v, rows')) :
    rows' = rows ∧ ∀ rows2, (∀ r ∈ reads op (opIds vars ts op), getRow rows2 r = getRow rows r) → exec callF vars ts rows2 op = some (v, rows2) := by
  have fin : ∀ {x : Option D}, (x.map fun v => (v, rows)) = some (v, rows') → rows' = rows ∧ ∀ rows2 : Rows, (x.map fun v => (v, rows2)) = some (v, rows2) := fun h => by
    obtain ⟨u, h1, h2⟩ := map_some h
    simp only [Prod.mk.injEq] at h2
    obtain ⟨rfl, rfl⟩ := h2
    exact ⟨rfl, fun rows2 => by simp [h1]⟩
  cases op
  case load m agg k a =>
    cases m <;> simp [grows, touch] at hg
    simp only [exec] at h ⊢
    obtain ⟨h1, h2⟩ := fin h
    refine ⟨h1, fun rows2 hr => ?_⟩
    have e : loadV rows2 agg k (opd vars ts a) = loadV rows agg k (opd vars ts a) := by
      simp only [reads, touch, Nat.one_ne_zero, if_false, opIds, AOp.opds, List.map_cons, List.map_nil, idsL] at hr
      cases hd : opd vars ts a with
      | addr r p ver o =>
        rw [hd] at hr
        simp only [loadV]
        rw [cellsAt_congr (hr r (by simp [ids, addId]))]
      | _ => rfl
    rw [e]
    exact h2 rows2
  case toStr a =>
    simp only [exec] at h ⊢
    obtain ⟨s, g1, g2⟩ := map_some h
    simp only [Prod.mk.injEq] at g2
    obtain ⟨rfl, rfl⟩ := g2
    refine ⟨rfl, fun rows2 hr => ?_⟩
    have e : toStrV rows2 (opd vars ts a) = toStrV rows (opd vars ts a) := by
      simp only [reads, touch, Nat.one_ne_zero, if_false, opIds, AOp.opds, List.map_cons, List.map_nil, idsL] at hr
      cases hd : opd vars ts a with
      | ref r p ver o n k =>
        rw [hd] at hr
        simp only [toStrV]
        rw [cellsAt_congr (hr r (by simp [ids, addId]))]
      | _ => rfl
    rw [e, g1]
    rfl
  case assign m x =>
    cases m <;> simp [grows, touch] at hg
    simp only [exec, Option.some.injEq, Prod.mk.injEq] at h ⊢
    exact ⟨h.2.symm, fun rows2 _ => ⟨h.1, trivial⟩⟩
  case call g ms m xs =>
    simp only [grows, touch] at hg
    split at hg <;> simp at hg
  case move x =>
    simp only [exec, Option.some.injEq, Prod.mk.injEq] at h ⊢
    exact ⟨h.2.symm, fun rows2 _ => ⟨h.1, trivial⟩⟩
  case same x =>
    simp only [exec, Option.some.injEq, Prod.mk.injEq] at h ⊢
    exact ⟨h.2.symm, fun rows2 _ => ⟨h.1, trivial⟩⟩
  case makeFn g cs =>
    simp only [exec, Option.some.injEq, Prod.mk.injEq] at h ⊢
    exact ⟨h.2.symm, fun rows2 _ => ⟨h.1, trivial⟩⟩
  case bin op x y => simp only [exec] at h ⊢; exact ⟨(fin h).1, fun rows2 _ => (fin h).2 rows2⟩
  case un op x => simp only [exec] at h ⊢; exact ⟨(fin h).1, fun rows2 _ => (fin h).2 rows2⟩
  case slice k x lo hi => simp only [exec] at h ⊢; exact ⟨(fin h).1, fun rows2 _ => (fin h).2 rows2⟩
  case indexAddr k x i => simp only [exec] at h ⊢; exact ⟨(fin h).1, fun rows2 _ => (fin h).2 rows2⟩
  case len s x => simp only [exec] at h ⊢; exact ⟨(fin h).1, fun rows2 _ => (fin h).2 rows2⟩
  case pick c a b =>
    simp only [exec] at h ⊢
    split at h
    · rename_i c' hc
      simp only [Option.some.injEq, Prod.mk.injEq] at h
      obtain ⟨rfl, rfl⟩ := h
      exact ⟨rfl, fun _ _ => rfl⟩
    · simp at h
  case build z ps =>
    simp only [exec] at h ⊢
    split at h
    · rename_i hc
      obtain ⟨u, h1, h2⟩ := map_some h
      simp only [Prod.mk.injEq] at h2
      obtain ⟨rfl, rfl⟩ := h2
      exact ⟨rfl, fun _ _ => by rw [if_pos hc, h1]; rfl⟩
    · simp at h
  case eqb n x y =>
    simp only [exec] at h ⊢
    split at h
    · simp only [Option.some.injEq, Prod.mk.injEq] at h
      obtain ⟨rfl, rfl⟩ := h
      exact ⟨rfl, fun _ _ => rfl⟩
    · simp at h
  case eqs n x y =>
    simp only [exec] at h ⊢
    split at h
    · obtain ⟨u, h1, h2⟩ := map_some h
      simp only [Prod.mk.injEq] at h2
      obtain ⟨rfl, rfl⟩ := h2
      exact ⟨rfl, fun _ _ => by rw [h1]; rfl⟩
    · simp at h
  case conv k x =>
    simp only [exec] at h ⊢
    split at h
    · simp only [Option.some.injEq, Prod.mk.injEq] at h
      obtain ⟨rfl, rfl⟩ := h
      exact ⟨rfl, fun _ _ => rfl⟩
    · simp at h
  case fieldAddr o x =>
    simp only [exec] at h ⊢
    split at h
    · simp only [Option.some.injEq, Prod.mk.injEq] at h
      obtain ⟨rfl, rfl⟩ := h
      exact ⟨rfl, fun _ _ => rfl⟩
    · simp only [Option.some.injEq, Prod.mk.injEq] at h
      obtain ⟨rfl, rfl⟩ := h
      exact ⟨rfl, fun _ _ => rfl⟩
    · simp at h
  case field a o k x =>
    simp only [exec] at h ⊢
    split at h
    · split at h
      · rename_i hl
        split at h
        · rename_i ha
          simp only [Option.some.injEq, Prod.mk.injEq] at h
          obtain ⟨rfl, rfl⟩ := h
          exact ⟨rfl, fun _ _ => by rw [if_pos hl, if_pos ha]⟩
        · rename_i ha
          exact ⟨(fin h).1, fun rows2 _ => by rw [if_pos hl, if_neg ha]; exact (fin h).2 rows2⟩
      · simp at h
    · simp at h
  case index x i =>
    simp only [exec] at h ⊢
    split at h
    · split at h
      · rename_i hl
        obtain ⟨u, h1, h2⟩ := map_some h
        simp only [Prod.mk.injEq] at h2
        obtain ⟨rfl, rfl⟩ := h2
        exact ⟨rfl, fun _ _ => by rw [if_pos hl, h1]; rfl⟩
      · simp at h
    · simp at h
  case extract i x =>
    simp only [exec] at h ⊢
    split at h
    · exact ⟨(fin h).1, fun rows2 _ => (fin h).2 rows2⟩
    · simp at h
  case mm m xs =>
    simp only [exec] at h ⊢
    split at h
    · simp at h
    · exact ⟨(fin h).1, fun rows2 _ => (fin h).2 rows2⟩
  case nilCheck x =>
    simp only [exec] at h ⊢
    split at h
    case h_4 => simp at h
    all_goals
      simp only [Option.some.injEq, Prod.mk.injEq] at h
      obtain ⟨rfl, rfl⟩ := h
      exact ⟨rfl, fun _ _ => rfl⟩
  all_goals simp [grows, touch] at hg

mutual
theorem adoptV_pre : ∀ (d : D) (rows : Rows), ∃ t, (adoptV rows d).1 = rows ++ t
  | .slice true k n cs, rows => ⟨_, by simp only [adoptV]; rfl⟩
  | .slice false k n cs, rows => ⟨[], by simp [adoptV]⟩
  | .agg vs, rows => by simp only [adoptV]; exact adoptVs_pre vs rows
  | .tup vs, rows => by simp only [adoptV]; exact adoptVs_pre vs rows
  | .undef, rows => ⟨[], by simp [adoptV]⟩
  | .bool _, rows => ⟨[], by simp [adoptV]⟩
  | .int _ _, rows => ⟨[], by simp [adoptV]⟩
  | .str _, rows => ⟨[], by simp [adoptV]⟩
  | .ref .., rows => ⟨[], by simp [adoptV]⟩
  | .addr .., rows => ⟨[], by simp [adoptV]⟩
  | .faddr .., rows => ⟨[], by simp [adoptV]⟩
  | .fn .., rows => ⟨[], by simp [adoptV]⟩
theorem adoptVs_pre : ∀ (ds : List D) (rows : Rows), ∃ t, (adoptVs rows ds).1 = rows ++ t
  | [], rows => ⟨[], by simp [adoptVs]⟩
  | d :: ds, rows => by
    obtain ⟨t, ht⟩ := adoptV_pre d rows
    obtain ⟨u, hu⟩ := adoptVs_pre ds (adoptV rows d).1
    exact ⟨t ++ u, by simp only [adoptVs]; rw [hu, ht, List.append_assoc]⟩
end

mutual
theorem share_own : ∀ {d d' : D} {rows rows' : Rows}, ownOnly d = true → shareV rows d = some (rows', d') → rows' = rows
  | .slice o k n cs, d', rows, rows', _, h => by simp only [shareV, Option.some.injEq, Prod.mk.injEq] at h; exact h.1.symm
  | .ref .., d', rows, rows', ho, h => by simp [ownOnly] at ho
  | .agg vs, d', rows, rows', ho, h => by
    simp only [shareV] at h
    obtain ⟨⟨rs, us⟩, h1, h2⟩ := map_some h
    simp only [Prod.mk.injEq] at h2
    rw [← h2.1]
    exact share_ownL (by unfold ownOnly at ho; exact ho) h1
  | .tup vs, d', rows, rows', ho, h => by
    simp only [shareV] at h
    obtain ⟨⟨rs, us⟩, h1, h2⟩ := map_some h
    simp only [Prod.mk.injEq] at h2
    rw [← h2.1]
    exact share_ownL (by unfold ownOnly at ho; exact ho) h1
  | .addr .., d', rows, rows', ho, h => by simp [ownOnly] at ho
  | .faddr .., d', rows, rows', ho, h => by simp [ownOnly] at ho
  | .fn .., d', rows, rows', ho, h => by simp [ownOnly] at ho
  | .undef, d', rows, rows', ho, h => by simp [shareV] at h
  | .bool _, d', rows, rows', _, h => by simp only [shareV, Option.some.injEq, Prod.mk.injEq] at h; exact h.1.symm
  | .int _ _, d', rows, rows', _, h => by simp only [shareV, Option.some.injEq, Prod.mk.injEq] at h; exact h.1.symm
  | .str _, d', rows, rows', _, h => by simp only [shareV, Option.some.injEq, Prod.mk.injEq] at h; exact h.1.symm
theorem share_ownL : ∀ {d d' : List D} {rows rows' : Rows}, ownOnlyL d = true → shareVs rows d = some (rows', d') → rows' = rows
  | [], d', rows, rows', _, h => by simp only [shareVs, Option.some.injEq, Prod.mk.injEq] at h; exact h.1.symm
  | d :: ds, d', rows, rows', ho, h => by
    simp only [shareVs] at h
    unfold ownOnlyL at ho
    simp only [Bool.and_eq_true] at ho
    split at h
    · simp at h
    rename_i rs1 d1 h1
    split at h
    · simp at h
    rename_i rs2 d2 h2
    simp only [Option.some.injEq, Prod.mk.injEq] at h
    rw [← h.1, share_ownL ho.2 h2, share_own ho.1 h1]
end

theorem madeV_pre {m : Mode} {rows rows' : Rows} {d d' : D} (ho : ownOnly d = true ∨ ∃ k n cs, d = .slice true k n cs) (h : madeV m rows d = some (d', rows')) : ∃ t, rows' = rows ++ t := by
  have own : ∀ {h : (let r := adoptV rows d; some (r.2, r.1)) = some (d', rows')}, ∃ t, rows' = rows ++ t := fun {h} => by
    simp only [Option.some.injEq, Prod.mk.injEq] at h
    rw [← h.2]
    exact adoptV_pre d rows
  cases m with
  | asis => exact own (h := h)
  | own => exact own (h := h)
  | lend => exact own (h := h)
  | share =>
    simp only [madeV] at h
    obtain ⟨⟨rs, u⟩, h1, h2⟩ := map_some h
    simp only [Prod.mk.injEq] at h2
    obtain ⟨rfl, rfl⟩ := h2
    rcases ho with ho | ⟨k, n, cs, rfl⟩
    · exact ⟨[], by rw [share_own ho h1]; simp⟩
    · simp only [shareV, Option.some.injEq, Prod.mk.injEq] at h1
      exact ⟨[], by rw [h1.1]; simp⟩

theorem takeArgs_still : ∀ {ds ds' : List D} {modes : List Mode} {rows rows' : Rows}, modes.length = ds.length → (modes.all fun m => decide (m = .lend ∨ m = .asis)) = true → takeArgs rows modes ds = some (rows', ds') → rows' = rows
  | [], _, _, _, _, _, _, h => by simp only [takeArgs, Option.some.injEq, Prod.mk.injEq] at h; exact h.1.symm
  | d :: ds, _, [], _, _, hl, _, _ => by simp at hl
  | d :: ds, ds', m :: modes, rows, rows', hl, hm, h => by
    simp only [List.all_cons, Bool.and_eq_true, decide_eq_true_eq] at hm
    simp only [takeArgs, List.headD_cons, List.tail_cons] at h
    have e : takeV m rows d = some (rows, d) := by rcases hm.1 with e | e <;> subst e <;> rfl
    rw [e] at h
    simp only at h
    split at h
    · simp at h
    rename_i rs es h2
    simp only [Option.some.injEq, Prod.mk.injEq] at h
    rw [← h.1]
    exact takeArgs_still (by simpa using hl) hm.2 h2

theorem exec_pre {callF : CallF} {vars ts : List D} {rows rows' : Rows} {op : AOp} {v : D} (ht : touch op = 1) (hg : grows op = true) (hml : ∀ g ms m xs, op = .call g ms m xs → ms.length = xs.length) (h : exec callF vars ts rows op = some (v, rows')) : ∃ t, rows' = rows ++ t := by
  cases op
  case alloc z => simp only [exec, Option.some.injEq, Prod.mk.injEq] at h; exact ⟨_, h.2.symm⟩
  case makeSlice m z b l c =>
    simp only [exec] at h
    split at h
    · split at h
      · exact madeV_pre (.inr ⟨_, _, _, rfl⟩) h
      · simp at h
    · simp at h
  case call g ms m xs =>
    simp only [touch] at ht
    split at ht
    case isFalse => simp at ht
    rename_i hm
    simp only [Bool.and_eq_true] at hm
    simp only [exec, callV] at h
    split at h
    · simp at h
    rename_i rows1 args1 h1
    have e := takeArgs_still (by simpa using hml g ms m xs rfl) (by simpa using hm.2) h1
    subst e
    rw [if_pos hm.1] at h
    split at h
    · simp at h
    split at h
    case h_2 => simp at h
    split at h
    case h_2 => simp at h
    split at h
    case isFalse => simp at h
    rename_i ho
    exact madeV_pre (.inl ho) h
  case assign m x => cases m <;> simp [touch] at ht
  case load m agg k a => cases m <;> simp [touch, grows] at ht hg
  all_goals first | (simp [touch] at ht; done) | (simp [grows] at hg; done)
end Av
namespace Av
open Go
set_option linter.unusedSimpArgs false
set_option linter.unusedVariables false
theorem dig_at : ∀ {U : List Nat}, Dig U → ∀ i, U.getD i 0 = val U / 4294967296 ^ i % 4294967296
  | [], _, i => by rw [val, Nat.zero_div]; rfl
  | x :: a, h, 0 => by
    have := h.cons.1
    rw [Nat.pow_zero, Nat.div_one, val, List.getD_cons_zero]; omega
  | x :: a, h, i + 1 => by
    have h1 := h.cons.1
    rw [List.getD_cons_succ, dig_at h.cons.2 i, val, Nat.pow_succ, Nat.mul_comm (4294967296 ^ i), ← Nat.div_div_eq_div_mul, show (x + 4294967296 * val a) / 4294967296 = val a by omega]
theorem digsN_at : ∀ n X i, i < n → (digsN n X).getD i 0 = X / 4294967296 ^ i % 4294967296
  | 0, X, i, h => by omega
  | n + 1, X, 0, h => by rw [digsN, List.getD_cons_zero, Nat.pow_zero, Nat.div_one]
  | n + 1, X, i + 1, h => by rw [digsN, List.getD_cons_succ, digsN_at n _ i (by omega), Nat.pow_succ, Nat.mul_comm (4294967296 ^ i), ← Nat.div_div_eq_div_mul]
theorem rem_digit {X p m i : Nat} (hp : 0 < p) (hm : 4294967296 = p * m) : ((X / 4294967296 ^ (i + 1) % 4294967296) * 4294967296 + X / 4294967296 ^ i % 4294967296) / p % 4294967296 = X / p / 4294967296 ^ i % 4294967296 := by
  have h1 : X / 4294967296 ^ (i + 1) = X / 4294967296 ^ i / 4294967296 := by rw [Nat.pow_succ, ← Nat.div_div_eq_div_mul]
  have h2 : X / p / 4294967296 ^ i = X / 4294967296 ^ i / p := by rw [Nat.div_div_eq_div_mul, Nat.mul_comm, ← Nat.div_div_eq_div_mul]
  rw [h1, h2]
  generalize X / 4294967296 ^ i = Y
  obtain ⟨t, ht⟩ : ∃ t, t = Y / 4294967296 / 4294967296 := ⟨_, rfl⟩
  obtain ⟨Z, hZ⟩ : ∃ Z, Z = Y / 4294967296 % 4294967296 * 4294967296 + Y % 4294967296 := ⟨_, rfl⟩
  have e : Y = p * (m * 4294967296 * t) + Z := by
    have : p * (m * 4294967296 * t) = 4294967296 * (4294967296 * t) := by
      rw [Nat.mul_assoc m, ← Nat.mul_assoc p, ← hm]
    rw [this]; omega
  rw [← hZ]
  have e2 : Y / p = m * 4294967296 * t + Z / p := by rw [e, Nat.mul_add_div hp]
  rw [e2, show m * 4294967296 * t = 4294967296 * (m * t) by rw [Nat.mul_comm m, Nat.mul_assoc], Nat.mul_add_mod]
theorem set_next {D R : List Nat} {n i x : Nat} (hD : D.length = n) (hi : i < n) (hx : x = D.getD i 0) : (D.take i ++ List.replicate (n - i) 0).set i x = D.take (i + 1) ++ List.replicate (n - (i + 1)) 0 := by
  have h1 : (D.take i).length = i := by rw [List.length_take]; omega
  have h2 : List.replicate (n - i) 0 = 0 :: List.replicate (n - (i + 1)) 0 := by rw [show n - i = (n - (i + 1)) + 1 by omega]; rfl
  rw [List.set_append_right _ _ (by omega), h1, Nat.sub_self, h2, List.set_cons_zero, take_get D i (by omega), hx, List.append_assoc]
  rfl
section
variable {T : Nat → Option Fun}
theorem runD_append {callF : CallF} {ks : List Nat} {b : Nat} {o : AOper} : ∀ {ops : List AOper} {i : Nat} {s : St × List (List Nat)}, runD callF ks b i (ops ++ [o]) s = (runD callF ks b i ops s).bind (stepD callF ks b (i + ops.length) o)
  | [], i, s => by
    simp only [List.nil_append, runD, Option.bind, List.length_nil, Nat.add_zero]
    cases stepD callF ks b i o s <;> rfl
  | o' :: ops, i, s => by
    simp only [List.cons_append, runD]
    cases stepD callF ks b i o' s with
    | none => rfl
    | some s => simp only [runD_append, List.length_cons, Nat.add_assoc, Nat.add_comm 1]
theorem execD_store {callF : CallF} {ks : List Nat} {b n : Nat} {vars ts : List D} {rows : Rows} {m : Bool} {x y : Nat} {r v o : Nat} {kd : IntKind} {z : Int} {row : Row}
    (hx : opd vars ts (.t x) = .addr r [] v o) (hy : opd vars ts (.t y) = .int kd z) (hk : ks.getD n 0 = 0) (h : storeV [getRow rows r] m 1 (.addr 0 [] v o) (.int kd z) = some [some row]) :
    execD callF ks b n vars ts rows (.store m 1 (.t x) (.t y)) = some (.undef, rows.set r (some row)) := by
  have e1 : opIds vars ts (.store m 1 (.t x) (.t y)) = [r] := by
    simp only [opIds, AOp.opds, List.map_cons, List.map_nil, hx, hy]; rfl
  have e2 : slotsAt b ks n = [] := by unfold slotsAt; rw [hk]; rfl
  have e3 : opd (vars.map (maskD [r])) (ts.map (maskD [r])) (.t x) = .addr 0 [] v o := by
    rw [opd_mask]
    simp only [hx, maskD, within, List.contains_cons, beq_self_eq_true, Bool.true_or, if_true, mapD, List.idxOf_cons_self]
  have e4 : opd (vars.map (maskD [r])) (ts.map (maskD [r])) (.t y) = .int kd z := by
    rw [opd_mask]
    simp only [hy, maskD, within, if_true, mapD]
  have e5 : exec callF (vars.map (maskD [r])) (ts.map (maskD [r])) (subRows rows [r]) (.store m 1 (.t x) (.t y)) = some (.undef, [some row]) := by
    simp only [exec, e3, e4, subRows, List.map_cons, List.map_nil, h, Option.map_some]
  unfold execD execAt
  rw [if_pos (by rfl), e1, e2, e5]
  rfl
def snocO (ops : List AOper) (o : AOper) : List AOper := ops ++ [o]
def StK (T : Nat → Option Fun) (ks : List Nat) (b n : Nat) (op : AOp) (d : Option Nat) (k : List Todo) (Q : AExit → St → Prop) (s : St) : Prop := EvX (execD (callW T) ks b n s.vars s.ts s.rows op) fun x => GoOn T Q k .normal (compact (put n d x.1 x.2 s))
/-- A calm region with one last operation that writes. -/
theorem Ev_draw_st (ops : List AOper) (op : AOp) (d : Option Nat) (ks : List Nat) (st : St) (k : List Todo) (Q : AExit → St → Prop) (h : Calm ops ks) : Ev T (.draw (snocO ops ⟨op, d, none⟩) [] ks) st k Q =
    EvO T 0 ops { st with ts := List.replicate (ops.length + 1) .undef } [] (onN (StK T ks st.rows.length ops.length op d k Q) (fun _ _ => False)) := by
  simp only [Calm, calmD, Bool.and_eq_true, beq_iff_eq] at h
  rw [Ev_draw, snocO]
  unfold EvN EvO drawn
  rw [h.2, runD_append]
  have e := runD_runOps (callF := callW T) (ks := ks) (b := st.rows.length) (i := 0) (s := ({ st with ts := List.replicate (ops.length + 1) .undef, rows := st.rows ++ List.replicate 0 none }, List.replicate (ops.length + 1) [])) h.1
  simp only [List.replicate_zero, List.append_nil, List.length_append, List.length_cons, List.length_nil, Nat.zero_add] at e ⊢
  rw [← e]
  cases runD (callW T) ks st.rows.length 0 ops ({ st with ts := List.replicate (ops.length + 1) .undef }, List.replicate (ops.length + 1) []) with
  | none => rfl
  | some x =>
    simp only [Option.bind, stepD, wanted, Option.map_some, EvX_some, GoOn_nil, onN_n, StK]
    cases execD (callW T) ks st.rows.length ops.length x.1.vars x.1.ts x.1.rows op with
    | none => rfl
    | some y => rfl
theorem bin_shr_s (k' : IntKind) (a s p : Nat) (hp : p = 2 ^ s) (hs : s < 32) : bin .shr (.int .u64 a) (.int k' s) = some (.int .u64 ((a / p : Nat) : Int)) := by
  rw [bin_shr _ _ _ _ (by omega)]
  have e : min (Int.toNat (s : Int)) IntKind.u64.bits = s := by
    rw [Int.toNat_natCast]; show min s 64 = s; omega
  rw [e, hp, Int.fdiv_eq_ediv_of_nonneg _ (Int.pow_nonneg (by omega))]
  congr 2

def b25r : ACode := (.seq (.region [⟨.bin .lss (.v 18) (.v 17), none, none⟩])
   (.seq (.cond (.t 0)
    .skip
    (.exit 4))
   (.seq (.block 5 (.seq (.region [⟨.move (.v 18), none, none⟩,
     ⟨.assign .asis (.t 0), (some 16), none⟩])
   (.draw [⟨.move (.v 15), none, none⟩,
     ⟨.move (.v 16), none, none⟩,
     ⟨.move (.v 6), none, none⟩,
     ⟨.move (.v 16), none, none⟩,
     ⟨.bin .add (.t 3) (.c (.int .i64 1)), none, none⟩,
     ⟨.indexAddr 1 (.t 2) (.t 4), none, none⟩,
     ⟨.load .asis false 1 (.t 5), none, none⟩,
     ⟨.conv .u64 (.t 6), none, none⟩,
     ⟨.bin .shl (.t 7) (.c (.int .u64 32)), none, none⟩,
     ⟨.move (.v 6), none, none⟩,
     ⟨.move (.v 16), none, none⟩,
     ⟨.indexAddr 1 (.t 9) (.t 10), none, none⟩,
     ⟨.load .asis false 1 (.t 11), none, none⟩,
     ⟨.conv .u64 (.t 12), none, none⟩,
     ⟨.bin .or (.t 8) (.t 13), none, none⟩,
     ⟨.move (.v 5), none, none⟩,
     ⟨.bin .shr (.t 14) (.t 15), none, none⟩,
     ⟨.conv .u32 (.t 16), none, none⟩,
     ⟨.indexAddr 1 (.t 0) (.t 1), none, none⟩,
     ⟨.store true 1 (.t 18) (.t 17), none, none⟩] [] [0, 0, 0, 0, 0, 0, 0, 0, 0, 0, 0, 0, 0, 0, 0, 0, 0, 0, 0, 0])))
   (.region [⟨.bin .add (.v 18) (.c (.int .i64 1)), none, none⟩,
     ⟨.assign .asis (.t 0), (some 18), none⟩]))))
theorem b25r_eq : b25r = (.seq (.region [⟨.bin .lss (.v 18) (.v 17), none, none⟩])
   (.seq (.cond (.t 0)
    .skip
    (.exit 4))
   (.seq (.block 5 (.seq (.region [⟨.move (.v 18), none, none⟩,
     ⟨.assign .asis (.t 0), (some 16), none⟩])
   (.draw (snocO [⟨.move (.v 15), none, none⟩,
     ⟨.move (.v 16), none, none⟩,
     ⟨.move (.v 6), none, none⟩,
     ⟨.move (.v 16), none, none⟩,
     ⟨.bin .add (.t 3) (.c (.int .i64 1)), none, none⟩,
     ⟨.indexAddr 1 (.t 2) (.t 4), none, none⟩,
     ⟨.load .asis false 1 (.t 5), none, none⟩,
     ⟨.conv .u64 (.t 6), none, none⟩,
     ⟨.bin .shl (.t 7) (.c (.int .u64 32)), none, none⟩,
     ⟨.move (.v 6), none, none⟩,
     ⟨.move (.v 16), none, none⟩,
     ⟨.indexAddr 1 (.t 9) (.t 10), none, none⟩,
     ⟨.load .asis false 1 (.t 11), none, none⟩,
     ⟨.conv .u64 (.t 12), none, none⟩,
     ⟨.bin .or (.t 8) (.t 13), none, none⟩,
     ⟨.move (.v 5), none, none⟩,
     ⟨.bin .shr (.t 14) (.t 15), none, none⟩,
     ⟨.conv .u32 (.t 16), none, none⟩,
     ⟨.indexAddr 1 (.t 0) (.t 1), none, none⟩] ⟨.store true 1 (.t 18) (.t 17), none, none⟩) [] [0, 0, 0, 0, 0, 0, 0, 0, 0, 0, 0, 0, 0, 0, 0, 0, 0, 0, 0, 0])))
   (.region [⟨.bin .add (.v 18) (.c (.int .i64 1)), none, none⟩,
     ⟨.assign .asis (.t 0), (some 18), none⟩])))) := rfl
/-- A state of the remainder's loop. -/
def stR (k s L : Nat) (i : Nat) (ts : List D) (U Q R : List Nat) : St :=
  ⟨[.undef, .undef, .undef, .undef, .undef, .int .u64 s, .ref 0 [] 0 0 (L + (k + 2) + 1) 1, .undef, .ref 1 [] 0 0 (L + 1) 1, .undef, .undef, .undef, .undef, .undef, .undef, .ref 2 [] 0 0 (k + 2) 1, .undef, .int .i64 ((k : Int) + 2), .int .i64 i], ts, [some ⟨dg U, false, 0, 0⟩, some ⟨dg Q, false, 0, 0⟩, some ⟨dg R, false, 0, 0⟩], 0⟩

set_option maxHeartbeats 2000000 in
theorem rem_ok (h : Has1 T) {Qf : AExit → St → Prop} {ks : List Todo} (k s L p : Nat) (st : St) (U Q : List Nat) (hU : U.length = L + (k + 2) + 1) (dU : Dig U) (hL : L + k < 2 ^ 39) (hp : p = 2 ^ s) (hs : s < 32)
    (hst : norm [5, 6, 8, 15, 17, 18] st = stR k s L 0 [] U Q (List.replicate (k + 2) 0))
    (hK : ∀ ts, GoOn T Qf ks .normal (stR k s L (k + 2) ts U Q (digsN (k + 2) (val U / p)))) :
    Ev T (.loop [5, 6, 8, 15, 17, 18] b25r) st (.blk 4 :: ks) Qf := by
  have hp1 : 0 < p := by rw [hp]; exact Nat.pow_pos (by omega)
  obtain ⟨m, hm⟩ : ∃ m, 4294967296 = p * m := ⟨2 ^ (32 - s), by rw [hp, ← Nat.pow_add, show s + (32 - s) = 32 by omega]⟩
  have hDl := digsN_length (k + 2) (val U / p)
  have hDa := fun i hi => digsN_at (k + 2) (val U / p) i hi
  have dD := dig_digsN (k + 2) (val U / p)
  have hUa := dig_at dU
  generalize hD : digsN (k + 2) (val U / p) = D at *
  refine Ev_loop (fun n st => ∃ i, i + n = k + 2 ∧ st = stR k s L i [] U Q (D.take i ++ List.replicate (k + 2 - i) 0)) (k + 2) ⟨0, by omega, by rw [hst]; rfl⟩ ?_
  rintro n st ⟨i, hi, rfl⟩
  cases n with
  | zero =>
    have ei : i = k + 2 := by omega
    subst ei
    rw [List.take_of_length_le (by omega), Nat.sub_self, List.replicate_zero, List.append_nil]
    have fin := hK [.bool false]
    simp only [b25r, stR, Int.natCast_add, Int.cast_ofNat_Int] at fin ⊢
    simp -implicitDefEqProofs (disch := first | omega | (apply calm_by; decide)) only [List.cons_append, List.nil_append, Ev_seq, Ev_region, Ev_skip, Ev_exit, Ev_ret, Ev_block, Ev_cond, Ev_ghost, Ev_draw_calm, GoOn_cmp, GoOn_nil, GoOn_thn, GoOn_thn_e, GoOn_thn_r, GoOn_blk, GoOn_blk_e, GoOn_blk_r, onN_n, onN_e, onN_r, Round_n, Round_e, Round_r, EvC_t, EvC_f, EvW_t, EvW_f, EvR_some, EvN_some, EvO_cons, EvO_nil, wanted, exec, put, passed, opd,
    List.length_cons, List.length_nil, Nat.zero_add, Nat.reduceAdd, List.replicate_succ, List.replicate_zero, List.set_cons_zero, List.set_cons_succ, List.getD_cons_zero, List.getD_cons_succ, Option.map_some, Option.map_none, List.map_cons, List.map_nil,
    bin_add, bin_sub, bin_mul, bin_eql, bin_neq, bin_lss, bin_leq, bin_gtr, bin_geq, bin_quo_nat, bin_rem_nat, bin_or_hi, bin_shr32, bin_shl32, lenV_slice, lenV_ref, ne_eq, not_false_eq_true, beq_true, beq_false, Bool.not_true, Bool.not_false, wrap_i64, wrap_u64, dec_t, dec_f, ite_t, ite_f, ibeq_t, ibeq_f, ibne_t, ibne_f, index_slice, index_ref, slice_slice_hi, slice_ref_hi, Int.natCast_add, Int.cast_ofNat_Int, Int.add_sub_cancel, Int.toNat_natCast, Int.toNat_natCast_add_one, Int.reduceToNat, Nat.mul_one, load_dg, shareL_dg, adoptV, if_true, if_false, ite_true, ite_false, Bool.true_eq, Bool.false_eq_true, beq_self_eq_true, reduceCtorEq, reduceIte, Nat.reduceMul, Nat.reduceSub, Nat.reduceLT, Nat.reduceLeDiff, Nat.reduceEqDiff]
    exact fin
  | succ n =>
    have hx := rem_digit (X := val U) (i := i) hp1 hm
    rw [← hUa, ← hUa, ← hDa i (by omega)] at hx
    have gu := dU.get i
    have gu1 := dU.get (i + 1)
    have hset := fun x hx => set_next (R := []) (x := x) hDl (show i < k + 2 by omega) hx
    have hRl : (D.take i ++ List.replicate (k + 2 - i) 0).length = k + 2 := by rw [List.length_append, List.length_take, List.length_replicate]; omega
    have hld : ∀ i R, i < L + (k + 2) + 1 → loadV [some ⟨dg U, false, 0, 0⟩, some ⟨dg Q, false, 0, 0⟩, some ⟨dg R, false, 0, 0⟩] false 1 (.addr 0 [] 0 i) = some (.int .u32 (U.getD i 0 : Nat)) := fun i R hi => load_row _ 0 0 i U false 0 0 rfl (by omega)
    have hld0 := fun R => hld i R (by omega)
    have hld1 := fun R => hld (i + 1) R (by omega)
    have hstv : ∀ (z : Int), 0 ≤ z → storeV [some ⟨dg (D.take i ++ List.replicate (k + 2 - i) 0), false, 0, 0⟩] true 1 (.addr 0 [] 0 i) (.int .u32 z) = some [some ⟨dg ((D.take i ++ List.replicate (k + 2 - i) 0).set i z.toNat), false, 0, 0⟩] := fun z hz => by
      rw [store_dg _ 0 0 i _ z rfl (by omega) hz]; rfl
    generalize D.take i ++ List.replicate (k + 2 - i) 0 = R at *
    generalize U.getD i 0 = u0 at *
    generalize U.getD (i + 1) 0 = u1 at *
    have e1 : ((u1 : Nat) : Int) * 4294967296 + ((u0 : Nat) : Int) = ((u1 * 4294967296 + u0 : Nat) : Int) := by omega
    have hsh : ∀ k', bin .shr (.int .u64 ((u1 * 4294967296 + u0 : Nat) : Int)) (.int k' s) = some (.int .u64 (((u1 * 4294967296 + u0) / p : Nat) : Int)) := fun k' => bin_shr_s k' _ s p hp hs
    generalize (u1 * 4294967296 + u0 : Nat) = z at *
    have e2 : ((((z / p : Nat) : Int)) % 4294967296) = ((z / p % 4294967296 : Nat) : Int) := by omega
    have hset2 := hset _ hx
    rw [b25r_eq]
    simp only [stR, Int.natCast_add, Int.cast_ofNat_Int]
    simp -implicitDefEqProofs (disch := first | omega | (apply calm_by; decide)) only [List.cons_append, List.nil_append, Ev_seq, Ev_region, Ev_skip, Ev_exit, Ev_ret, Ev_block, Ev_cond, Ev_ghost, Ev_draw_calm, GoOn_cmp, GoOn_nil, GoOn_thn, GoOn_thn_e, GoOn_thn_r, GoOn_blk, GoOn_blk_e, GoOn_blk_r, onN_n, onN_e, onN_r, Round_n, Round_e, Round_r, EvC_t, EvC_f, EvW_t, EvW_f, EvR_some, EvN_some, EvO_cons, EvO_nil, wanted, exec, put, passed, opd,
    List.length_cons, List.length_nil, Nat.zero_add, Nat.reduceAdd, List.replicate_succ, List.replicate_zero, List.set_cons_zero, List.set_cons_succ, List.getD_cons_zero, List.getD_cons_succ, Option.map_some, Option.map_none, List.map_cons, List.map_nil,
    bin_add, bin_sub, bin_mul, bin_eql, bin_neq, bin_lss, bin_leq, bin_gtr, bin_geq, bin_quo_nat, bin_rem_nat, bin_or_hi, bin_shr32, bin_shl32, lenV_slice, lenV_ref, ne_eq, not_false_eq_true, beq_true, beq_false, Bool.not_true, Bool.not_false, wrap_i64, wrap_u64, dec_t, dec_f, ite_t, ite_f, ibeq_t, ibeq_f, ibne_t, ibne_f, index_slice, index_ref, slice_slice_hi, slice_ref_hi, Int.natCast_add, Int.cast_ofNat_Int, Int.add_sub_cancel, Int.toNat_natCast, Int.toNat_natCast_add_one, Int.reduceToNat, Nat.mul_one, load_dg, shareL_dg, adoptV, if_true, if_false, ite_true, ite_false, Bool.true_eq, Bool.false_eq_true, beq_self_eq_true, reduceCtorEq, reduceIte, Nat.reduceMul, Nat.reduceSub, Nat.reduceLT, Nat.reduceLeDiff, Nat.reduceEqDiff, Ev_draw_st, hld0, hld1, e1, hsh, wrap_u32_mod, e2]
    have c1 : (2 : Nat) ≠ 0 := by omega
    have hz : (((z / p % 4294967296 : Nat) : Int)).toNat = z / p % 4294967296 := Int.toNat_natCast _
    have hstv2 := hstv ((z / p % 4294967296 : Nat) : Int) (by omega)
    rw [hz, hset2] at hstv2
    unfold StK
    rw [execD_store (x := 18) (y := 17) (by rfl) (by rfl) (by rfl) (by exact hstv2), EvX_some]
    simp only [put, List.set_cons_zero, List.set_cons_succ]
    simp only [norm, keepLive, compact, List.range_zero, List.range_succ, List.nil_append, List.cons_append, List.append_nil, List.contains_cons, List.contains_nil, Bool.or_false, Bool.or_true, Bool.false_or, Bool.true_or, Nat.reduceBEq, beq_self_eq_true, idsL, ids, addId, List.filter_cons, List.filter_nil, decide_true, decide_false, List.map_cons, List.map_nil, maskD, within, withinL, mapD, mapL, subRows, getRow, List.idxOf_cons, List.idxOf_nil, cond_true, cond_false, Bool.and_true, Bool.true_and, if_true, if_false, Bool.false_eq_true, List.length_cons, List.length_nil, Nat.zero_add, Nat.reduceAdd, Nat.reduceLT, List.getD_cons_zero, List.getD_cons_succ, List.set_cons_zero, List.set_cons_succ, reduceIte, reduceCtorEq]
    simp -implicitDefEqProofs (disch := first | omega | (apply calm_by; decide)) only [List.cons_append, List.nil_append, Ev_seq, Ev_region, Ev_skip, Ev_exit, Ev_ret, Ev_block, Ev_cond, Ev_ghost, Ev_draw_calm, GoOn_cmp, GoOn_nil, GoOn_thn, GoOn_thn_e, GoOn_thn_r, GoOn_blk, GoOn_blk_e, GoOn_blk_r, onN_n, onN_e, onN_r, Round_n, Round_e, Round_r, EvC_t, EvC_f, EvW_t, EvW_f, EvR_some, EvN_some, EvO_cons, EvO_nil, wanted, exec, put, passed, opd,
    List.length_cons, List.length_nil, Nat.zero_add, Nat.reduceAdd, List.replicate_succ, List.replicate_zero, List.set_cons_zero, List.set_cons_succ, List.getD_cons_zero, List.getD_cons_succ, Option.map_some, Option.map_none, List.map_cons, List.map_nil,
    bin_add, bin_sub, bin_mul, bin_eql, bin_neq, bin_lss, bin_leq, bin_gtr, bin_geq, bin_quo_nat, bin_rem_nat, bin_or_hi, bin_shr32, bin_shl32, lenV_slice, lenV_ref, ne_eq, not_false_eq_true, beq_true, beq_false, Bool.not_true, Bool.not_false, wrap_i64, wrap_u64, dec_t, dec_f, ite_t, ite_f, ibeq_t, ibeq_f, ibne_t, ibne_f, index_slice, index_ref, slice_slice_hi, slice_ref_hi, Int.natCast_add, Int.cast_ofNat_Int, Int.add_sub_cancel, Int.toNat_natCast, Int.toNat_natCast_add_one, Int.reduceToNat, Nat.mul_one, load_dg, shareL_dg, adoptV, if_true, if_false, ite_true, ite_false, Bool.true_eq, Bool.false_eq_true, beq_self_eq_true, reduceCtorEq, reduceIte, Nat.reduceMul, Nat.reduceSub, Nat.reduceLT, Nat.reduceLeDiff, Nat.reduceEqDiff, norm, keepLive, compact, List.range_zero, List.range_succ, List.nil_append, List.cons_append, List.append_nil, List.contains_cons, List.contains_nil, Bool.or_false, Bool.or_true, Bool.false_or, Bool.true_or, Nat.reduceBEq, beq_self_eq_true, idsL, ids, addId, List.filter_cons, List.filter_nil, decide_true, decide_false, List.map_cons, List.map_nil, maskD, within, withinL, mapD, mapL, subRows, getRow, List.idxOf_cons, List.idxOf_nil, cond_true, cond_false, Bool.and_true, Bool.true_and, if_true, if_false, Bool.false_eq_true, List.length_cons, List.length_nil, Nat.zero_add, Nat.reduceAdd, Nat.reduceLT, List.getD_cons_zero, List.getD_cons_succ, List.set_cons_zero, List.set_cons_succ, reduceIte, reduceCtorEq]
    exact ⟨n, by omega, i + 1, by omega, rfl⟩
end
end Av

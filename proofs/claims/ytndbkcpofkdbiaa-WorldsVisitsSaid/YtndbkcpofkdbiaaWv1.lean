/- A part of the proof: WorldsVisits: for every input the law returns true and the argument reads behind the call as it read before. Conditions: none. -/
import GoSem.Dispatch
set_option linter.all false
/-
The abstract machine: a deterministic evaluator over data trees and rows that the frame owns. Nothing here speaks of the model's memory.
-/
namespace Av
open Go

/-- Data. 'slice own k n cells': n elements of k cells; own: nobody else holds its memory. 'ref': a slice into row r (through the nested own slices at 'path'), 'addr': a pointer into it, 'faddr': a pointer into memory that is never written again. -/
inductive D where
  | undef
  | bool (b : Bool)
  | int (k : IntKind) (n : Int)
  | str (s : List UInt8)
  | slice (own : Bool) (k n : Nat) (cells : List D)
  | ref (r : Nat) (path : List Nat) (ver off n k : Nat)
  | addr (r : Nat) (path : List Nat) (ver off : Nat)
  | faddr (cells : List D) (off : Nat)
  | agg (cells : List D)
  | tup (vs : List D)
  | fn (g : Nat) (caps : List D)
  deriving Inhabited

structure Row where
  cells : List D
  pub : Bool := false
  fz : Nat := 0
  ver : Nat := 0

abbrev Rows := List (Option Row)

mutual
def shareD : D → D
  | .slice _ k n cs => .slice false k n (shareL cs)
  | .agg cs => .agg (shareL cs)
  | .tup vs => .tup (shareL vs)
  | .undef => .undef
  | .bool b => .bool b
  | .int k n => .int k n
  | .str s => .str s
  | .ref r p v o n k => .ref r p v o n k
  | .addr r p v o => .addr r p v o
  | .faddr c o => .faddr c o
  | .fn g c => .fn g c
def shareL : List D → List D
  | [] => []
  | d :: ds => shareD d :: shareL ds
end

def nav : List D → List Nat → Option (List D)
  | cells, [] => some cells
  | cells, p :: ps => match cells[p]? with
    | some (.slice true _ _ cs) => nav cs ps
    | _ => none

/-- The nested own slice at 'path' gets the cells 'new'. -/
def setNav : List D → List Nat → List D → List D
  | _, [], new => new
  | cells, p :: ps, new => match cells[p]? with
    | some (.slice true k n cs) => cells.set p (.slice true k n (setNav cs ps new))
    | _ => cells

/-- The cell at 'path' (not empty) itself becomes 'd'. -/
def putNav : List D → List Nat → D → List D
  | cells, [], _ => cells
  | cells, [p], d => cells.set p d
  | cells, p :: ps, d => match cells[p]? with
    | some (.slice true k n cs) => cells.set p (.slice true k n (putNav cs ps d))
    | _ => cells

/-- The nested own slice at 'path' is shared from now on. -/
def shareNav : List D → List Nat → List D
  | cells, [] => cells
  | cells, p :: ps => match cells[p]? with
    | some (.slice true k n cs) => match ps with
      | [] => cells.set p (.slice false k n (shareL cs))
      | _ :: _ => cells.set p (.slice true k n (shareNav cs ps))
    | _ => cells

def theRow (rows : Rows) (r : Nat) : Option Row := match rows[r]? with | some (some x) => some x | _ => none

/-- The cells at (r, path), if the version fits. -/
def cellsAt (rows : Rows) (r : Nat) (path : List Nat) (ver : Nat) : Option (Row × List D) :=
  match theRow rows r with
  | none => none
  | some row => match path with
    | [] => some (row, row.cells)
    | p :: ps => if ver = row.ver then (nav row.cells (p :: ps)).map fun cs => (row, cs) else none

def cut (cs : List D) (off len : Nat) : List D := (cs.drop off).take len

mutual
/-- 'v' is shared from now on: what it refers to is never written again. -/
def shareV (rows : Rows) : D → Option (Rows × D)
  | .slice _ k n cs => some (rows, .slice false k n (shareL cs))
  | .ref r path ver off n k =>
    match cellsAt rows r path ver with
    | none => none
    | some (row, cells) =>
      if off + n * k ≤ cells.length then
        match path with
        | [] => some (rows.set r (some { row with cells := shareL row.cells, pub := true, fz := max row.fz (off + n * k) }), .slice false k n (cut (shareL row.cells) off (n * k)))
        | p :: ps => some (rows.set r (some { row with cells := shareNav row.cells (p :: ps) }), .slice false k n (cut (shareL cells) off (n * k)))
      else none
  | .agg vs => (shareVs rows vs).map fun (rs, vs) => (rs, .agg vs)
  | .tup vs => (shareVs rows vs).map fun (rs, vs) => (rs, .tup vs)
  | .addr .. => none
  | .faddr .. => none
  | .fn g caps => match caps with | [] => some (rows, .fn g []) | _ => none
  | .undef => none
  | .bool b => some (rows, .bool b)
  | .int k n => some (rows, .int k n)
  | .str s => some (rows, .str s)
def shareVs (rows : Rows) : List D → Option (Rows × List D)
  | [] => some (rows, [])
  | d :: ds => match shareV rows d with
    | none => none
    | some (rs, d) => match shareVs rs ds with
      | none => none
      | some (rs, ds) => some (rs, d :: ds)
end

mutual
/-- 'v' goes into a cell, or out of the function: a row of its own goes with it. -/
def giveV (rows : Rows) : D → Option (Rows × D)
  | .ref r path ver off n k =>
    match path, off, theRow rows r with
    | [], 0, some row =>
      if row.pub then shareV rows (.ref r path ver off n k)
      else if n * k ≤ row.cells.length then some (rows.set r none, .slice true k n (row.cells.take (n * k))) else none
    | _, _, _ => shareV rows (.ref r path ver off n k)
  | .slice o k n cs => some (rows, .slice o k n cs)
  | .agg vs => (giveVs rows vs).map fun (rs, vs) => (rs, .agg vs)
  | .tup vs => (giveVs rows vs).map fun (rs, vs) => (rs, .tup vs)
  | .addr .. => none
  | .faddr .. => none
  | .fn g caps => match caps with | [] => some (rows, .fn g []) | _ => none
  | .undef => none
  | .bool b => some (rows, .bool b)
  | .int k n => some (rows, .int k n)
  | .str s => some (rows, .str s)
def giveVs (rows : Rows) : List D → Option (Rows × List D)
  | [] => some (rows, [])
  | d :: ds => match giveV rows d with
    | none => none
    | some (rs, d) => match giveVs rs ds with
      | none => none
      | some (rs, ds) => some (rs, d :: ds)
end

mutual
/-- What came with memory of its own gets rows. -/
def adoptV (rows : Rows) : D → Rows × D
  | .slice true k n cs => (rows ++ [some { cells := cs }], .ref rows.length [] 0 0 n k)
  | .slice false k n cs => (rows, .slice false k n cs)
  | .agg vs => let r := adoptVs rows vs; (r.1, .agg r.2)
  | .tup vs => let r := adoptVs rows vs; (r.1, .tup r.2)
  | .undef => (rows, .undef)
  | .bool b => (rows, .bool b)
  | .int k n => (rows, .int k n)
  | .str s => (rows, .str s)
  | .ref r p v o n k => (rows, .ref r p v o n k)
  | .addr r p v o => (rows, .addr r p v o)
  | .faddr c o => (rows, .faddr c o)
  | .fn g c => (rows, .fn g c)
def adoptVs (rows : Rows) : List D → Rows × List D
  | [] => (rows, [])
  | d :: ds => let r := adoptV rows d; let s := adoptVs r.1 ds; (s.1, r.2 :: s.2)
end

/-- How a value is taken: as it is · shared · with its memory. -/
inductive Mode where
  | asis | share | own | lend
  deriving DecidableEq

mutual
/-- What a callee sees of a value that is only lent to it. -/
def lendV (rows : Rows) : D → Option D
  | .ref r path ver off n k =>
    match cellsAt rows r path ver with
    | none => none
    | some (_, cells) => if off + n * k ≤ cells.length then some (.slice false k n (cut (shareL cells) off (n * k))) else none
  | .agg vs => (lendVs rows vs).map .agg
  | .slice o k n cs => if o && !cs.isEmpty then none else some (.slice false k n (shareL cs))
  | .bool b => some (.bool b)
  | .int k n => some (.int k n)
  | .str s => some (.str s)
  | .undef => none
  | .addr _ _ _ _ => none
  | .faddr _ _ => none
  | .tup _ => none
  | .fn _ _ => none
def lendVs (rows : Rows) : List D → Option (List D)
  | [] => some []
  | d :: ds => match lendV rows d, lendVs rows ds with
    | some d, some ds => some (d :: ds)
    | _, _ => none
end

mutual
/-- No memory but its own, no pointers. -/
def ownOnly : D → Bool
  | .slice o _ _ cs => (o || cs.isEmpty) && ownOnlyL cs
  | .agg vs => ownOnlyL vs
  | .tup vs => ownOnlyL vs
  | .undef => true
  | .bool _ => true
  | .int _ _ => true
  | .str _ => true
  | .ref _ _ _ _ _ _ => false
  | .addr _ _ _ _ => false
  | .faddr _ _ => false
  | .fn _ _ => false
def ownOnlyL : List D → Bool
  | [] => true
  | d :: ds => ownOnly d && ownOnlyL ds
end

def takeV (m : Mode) (rows : Rows) (v : D) : Option (Rows × D) :=
  match m with
  | .asis => some (rows, v)
  | .share => shareV rows v
  | .own => giveV rows v
  | .lend => some (rows, v)

/-- What an operation made (own memory at the top): shared, or with rows of the frame. -/
def madeV (m : Mode) (rows : Rows) (v : D) : Option (D × Rows) :=
  match m with
  | .share => (shareV rows v).map fun (rs, v) => (v, rs)
  | _ => let r := adoptV rows v; some (r.2, r.1)

/-- A value of one cell. -/
def storable : D → Bool
  | .bool _ => true
  | .int _ _ => true
  | .str _ => true
  | .slice _ _ _ _ => true
  | .fn _ _ => true
  | _ => false
def scalarD : D → Bool
  | .bool _ => true
  | .int _ _ => true
  | .str _ => true
  | _ => false

def isU : D → Bool
  | .undef => true
  | _ => false

def comps : D → List D
  | .agg cs => cs
  | d => [d]

/-- What is read of a cell: an own slice inside row r is read as a ref through its path. -/
def borrow (r : Nat) (path : List Nat) (ver : Nat) (i : Nat) : D → D
  | .slice true k n _ => .ref r (path ++ [i]) ver 0 n k
  | d => d

def borrowL (r : Nat) (path : List Nat) (ver : Nat) (i : Nat) : List D → List D
  | [] => []
  | d :: ds => borrow r path ver i d :: borrowL r path ver (i + 1) ds

mutual
def deq : D → D → Option Bool
  | .bool a, .bool b => some (a == b)
  | .int k a, .int k' b => if k = k' then some (a == b) else none
  | .str a, .str b => some (a == b)
  | .agg a, .agg b => deqL a b
  | _, _ => none
def deqL : List D → List D → Option Bool
  | [], [] => some true
  | x :: xs, y :: ys => match deq x y with
    | some true => deqL xs ys
    | some false => some false
    | none => none
  | _, _ => none
end

def intBin (op : BinOp) (k : IntKind) (x y : Int) : Option D :=
  match op with
  | .add => some (.int k (k.wrap (x + y)))
  | .sub => some (.int k (k.wrap (x - y)))
  | .mul => some (.int k (k.wrap (x * y)))
  | .quo => if y = 0 then none else some (.int k (k.wrap (x.tdiv y)))
  | .rem => if y = 0 then none else some (.int k (x.tmod y))
  | .and => some (.int k (k.wrap (BitVec.ofInt k.bits x &&& BitVec.ofInt k.bits y).toNat))
  | .or => some (.int k (k.wrap (BitVec.ofInt k.bits x ||| BitVec.ofInt k.bits y).toNat))
  | .xor => some (.int k (k.wrap (BitVec.ofInt k.bits x ^^^ BitVec.ofInt k.bits y).toNat))
  | .andNot => some (.int k (k.wrap (BitVec.ofInt k.bits x &&& ~~~ BitVec.ofInt k.bits y).toNat))
  | .eql => some (.bool (x == y))
  | .neq => some (.bool (x != y))
  | .lss => some (.bool (x < y))
  | .leq => some (.bool (x ≤ y))
  | .gtr => some (.bool (x > y))
  | .geq => some (.bool (x ≥ y))
  | _ => none

def strBin (op : BinOp) (x y : List UInt8) : Option D :=
  match op with
  | .add => if x.length + y.length ≤ 9223372036854775807 then some (.str (x ++ y)) else none
  | .eql => some (.bool (x == y))
  | .neq => some (.bool !(x == y))
  | .lss => some (.bool (Op.bytesLess x y))
  | .leq => some (.bool (Op.bytesLess x y || x == y))
  | .gtr => some (.bool !(Op.bytesLess x y || x == y))
  | .geq => some (.bool !(Op.bytesLess x y))
  | _ => none

def bin (op : BinOp) (x y : D) : Option D :=
  match op, x, y with
  | .shl, .int k a, .int _ b => if b < 0 then none else some (.int k (k.wrap (a * 2 ^ (min b.toNat k.bits))))
  | .shr, .int k a, .int _ b => if b < 0 then none else some (.int k (a.fdiv (2 ^ (min b.toNat k.bits))))
  | op, .int k a, .int k' b => if k = k' then intBin op k a b else none
  | op, .str a, .str b => strBin op a b
  | _, _, _ => none

def un (op : UnOp) (x : D) : Option D :=
  match op, x with
  | .neg, .int k n => some (.int k (k.wrap (0 - n)))
  | .not, .bool b => some (.bool !b)
  | .xor, .int k n => some (.int k (k.wrap (BitVec.ofInt k.bits (if k.signed then -1 else k.max) ^^^ BitVec.ofInt k.bits n).toNat))
  | _, _ => none

inductive Opd where
  | v (i : Nat)
  | t (i : Nat)
  | c (d : D)

inductive AOp where
  | move (x : Opd)
  | assign (m : Mode) (x : Opd)
  | pick (c a b : Opd)
  | alloc (zero : List D)
  | box (x : Opd)
  | build (zero : List D) (parts : List (Nat × Nat × Opd))
  | buildSlice (m : Mode) (zero : List D) (n : Nat) (parts : List (Nat × Opd))
  | load (m : Mode) (agg : Bool) (k : Nat) (a : Opd)
  | store (scalar : Bool) (k : Nat) (a x : Opd)
  | bin (op : BinOp) (x y : Opd)
  | eqb (neg : Bool) (x y : Opd)
  | eqs (neg : Bool) (x y : Opd)
  | un (op : UnOp) (x : Opd)
  | conv (k : IntKind) (x : Opd)
  | toBytes (m : Mode) (x : Opd)
  | toStr (x : Opd)
  | same (x : Opd)
  | makeSlice (m : Mode) (zero : List D) (bytes : Nat) (len cap : Opd)
  | slice (k : Nat) (x : Opd) (lo hi : Option Opd)
  | fieldAddr (off : Nat) (x : Opd)
  | field (agg : Bool) (off k : Nat) (x : Opd)
  | indexAddr (k : Nat) (x i : Opd)
  | index (x i : Opd)
  | extract (i : Nat) (x : Opd)
  | len (str : Bool) (x : Opd)
  | append (scalar : Bool) (k bytes : Nat) (take : Bool) (x y : Opd)
  | mm (min : Bool) (xs : List Opd)
  | nilCheck (x : Opd)
  | makeFn (g : Nat) (caps : List Opd)
  | call (g : Nat) (modes : List Mode) (m : Mode) (args : List Opd)
  | callV (f : Opd) (modes : List Mode) (m : Mode) (args : List Opd)

structure AOper where
  op : AOp
  dst : Option Nat := none
  guard : Option (Nat × Bool) := none

inductive ACode where
  | skip
  | region (ops : List AOper)
  | draw (ops : List AOper) (pairs : List (Nat × Nat)) (ks : List Nat)
  | ghost (is : List Nat)
  | seq (a b : ACode)
  | cond (c : Opd) (a b : ACode)
  | block (id : Nat) (body : ACode)
  | loop (live : List Nat) (body : ACode)
  | exit (id : Nat)
  | ret

inductive AExit where
  | normal | exit (id : Nat) | ret
  deriving DecidableEq

structure St where
  vars : List D
  ts : List D
  rows : Rows
  base : Nat := 0

abbrev CallF := Nat → List D → Rows → Option (D × Rows)

def opd (vars ts : List D) : Opd → D
  | .v i => vars.getD i .undef
  | .t i => ts.getD i .undef
  | .c d => d

/-- The cells of 'zero', n times. -/
def zeros (zero : List D) : Nat → List D
  | 0 => []
  | n + 1 => zero ++ zeros zero n

/-- The cells 'v' are laid from 'off' on. -/
def layAt (cells : List D) (off : Nat) : List D → List D
  | [] => cells
  | d :: ds => layAt (cells.set off d) (off + 1) ds

def fill (cells : List D) : List (Nat × Nat × List D) → Option (List D)
  | [] => some cells
  | (o, k, v) :: rest => if v.length = k ∧ o + k ≤ cells.length then fill (layAt cells o v) rest else none

def sliceIdx (lo hi : Option D) (n : Nat) : Option (Nat × Nat) :=
  match (match hi with | none => some (n : Int) | some (.int _ h) => some h | _ => none), (match lo with | none => some (0 : Int) | some (.int _ l) => some l | _ => none) with
  | some h, some l => if 0 ≤ l ∧ l ≤ h ∧ h ≤ n then some (l.toNat, h.toNat) else none
  | _, _ => none

def setCells (cells : List D) (off : Nat) (vs : List D) : Option (List D) :=
  if off + vs.length ≤ cells.length then some (layAt cells off vs) else none

def loadV (rows : Rows) (agg : Bool) (k : Nat) : D → Option D
  | .faddr cells off =>
    if off + k ≤ cells.length then
      if agg then some (.agg (cut cells off k)) else if k = 1 then cells[off]? else none
    else none
  | .addr r path ver off =>
    match cellsAt rows r path ver with
    | none => none
    | some (row, cells) =>
      if off + k ≤ cells.length then
        if agg then some (.agg (borrowL r path row.ver off (cut cells off k))) else if k = 1 then (cells[off]?).map (borrow r path row.ver off) else none
      else none
  | _ => none

def storeV (rows : Rows) (scalar : Bool) (k : Nat) (a x : D) : Option Rows :=
  match giveVs rows (comps x) with
  | none => none
  | some (rows, vs) =>
    match a with
    | .addr r path ver off =>
      if vs.length = k ∧ vs.all storable ∧ (scalar = true → vs.all scalarD = true) then
        match cellsAt rows r path ver with
        | none => none
        | some (row, cells) =>
          match setCells cells off vs with
          | none => none
          | some cells' =>
            match path with
            | [] => if row.pub then (if row.fz ≤ off then some (rows.set r (some { row with cells := cells', ver := if scalar then row.ver else row.ver + 1 })) else none)
                    else some (rows.set r (some { row with cells := cells', ver := if scalar then row.ver else row.ver + 1 }))
            | p :: ps => some (rows.set r (some { row with cells := setNav row.cells (p :: ps) cells', ver := if scalar then row.ver else row.ver + 1 }))
      else none
    | _ => none

/-- What is read is taken out of the cells. -/
def takeCells (rows : Rows) (agg : Bool) (k : Nat) (a : D) : Option (D × Rows) :=
  match a with
  | .faddr cells off => (loadV rows agg k (.faddr cells off)).map fun v => (v, rows)
  | .addr r path ver off =>
    match cellsAt rows r path ver with
    | none => none
    | some (row, cells) =>
      if off + k ≤ cells.length ∧ row.pub = false then
        let cells' := cells.take off ++ List.replicate k .undef ++ cells.drop (off + k)
        let rows' := match path with
          | [] => rows.set r (some { row with cells := cells' })
          | p :: ps => rows.set r (some { row with cells := setNav row.cells (p :: ps) cells' })
        if agg then madeV .own rows' (.agg (cut cells off k)) else if k = 1 then match cells[off]? with | some d => madeV .own rows' d | none => none else none
      else none
  | _ => none

def sliceV (k : Nat) (x : D) (lo hi : Option D) : Option D :=
  match x with
  | .str s => if k = 0 then (sliceIdx lo hi s.length).map fun (l, h) => .str ((s.drop l).take (h - l)) else none
  | .slice _ k' n cells => if k = k' ∧ 0 < k then (sliceIdx lo hi n).map fun (l, h) => .slice false k (h - l) (cut (shareL cells) (l * k) ((h - l) * k)) else none
  | .ref r path ver off n k' => if k = k' ∧ 0 < k then (sliceIdx lo hi n).map fun (l, h) => .ref r path ver (off + l * k) (h - l) k else none
  | _ => none

def lenV (str : Bool) (x : D) : Option D :=
  match x with
  | .str s => if str then some (.int .i64 s.length) else none
  | .slice _ _ n _ => if str then none else some (.int .i64 n)
  | .ref _ _ _ _ n _ => if str then none else some (.int .i64 n)
  | _ => none

def indexAddrV (k : Nat) (x i : D) : Option D :=
  match i with
  | .int _ i =>
    match x with
    | .slice _ k' n cells => if k = k' ∧ 0 ≤ i ∧ i < n then some (.faddr (shareL cells) (i.toNat * k)) else none
    | .ref r path ver off n k' => if k = k' ∧ 0 ≤ i ∧ i < n then some (.addr r path ver (off + i.toNat * k)) else none
    | _ => none
  | _ => none

/-- The elements that an append takes over: their cells, and how many. -/
def appendSrc (rows : Rows) (scalar take : Bool) (k : Nat) (y : D) : Option (Rows × Nat × List D) :=
  if take then
    match giveV rows y with
    | some (rows, .slice _ k' m cs) => if k = k' then some (rows, m, cs) else none
    | _ => none
  else
    match y with
    | .ref r path ver off m k' =>
      if scalar then
        match cellsAt rows r path ver with
        | some (_, cells) => if k = k' ∧ off + m * k ≤ cells.length ∧ (cut cells off (m * k)).all scalarD = true then some (rows, m, cut cells off (m * k)) else none
        | none => none
      else
        match shareV rows (.ref r path ver off m k') with
        | some (rows, .slice _ k'' m cs) => if k = k'' then some (rows, m, cs) else none
        | _ => none
    | .slice _ k' m cs => if k = k' then some (rows, m, shareL cs) else none
    | .str s => if k = 1 then some (rows, s.length, s.map fun b => .int .u8 b.toNat) else none
    | _ => none

def strOf : List D → Option (List UInt8)
  | [] => some []
  | .int .u8 n :: ds => (strOf ds).map fun s => UInt8.ofNat n.toNat :: s
  | _ => none

/-- A string's bytes out of a slice. -/
def toStrV (rows : Rows) : D → Option (List UInt8)
  | .slice _ k _ cs => if k = 1 then strOf cs else none
  | .ref r path ver off n k => match cellsAt rows r path ver with
    | some (_, cells) => if k = 1 ∧ off + n ≤ cells.length then strOf (cut cells off n) else none
    | none => none
  | _ => none

def room (n bytes : Nat) : Bool := n * bytes ≤ 140737488355328

def appendV (rows : Rows) (scalar : Bool) (k bytes : Nat) (take : Bool) (x y : D) : Option (D × Rows) :=
  match appendSrc rows scalar take k y with
  | none => none
  | some (rows, m, ys) =>
    match x with
    | .slice true k' n [] =>
      if k = k' ∧ n = 0 ∧ room m bytes then some (.ref rows.length [] 0 0 m k, rows ++ [some { cells := ys }]) else none
    | .ref r [] _ off n k' =>
      match theRow rows r with
      | none => none
      | some row =>
        if k = k' ∧ off + n * k = row.cells.length ∧ room (n + m) bytes then
          some (.ref rows.length [] 0 0 (n + m) k, (rows.set r none) ++ [some { cells := row.cells.drop off ++ ys, pub := row.pub, fz := row.fz - off }])
        else none
    | .ref r (p :: ps) ver off n k' =>
      match cellsAt rows r (p :: ps) ver with
      | none => none
      | some (row, cells) =>
        if k = k' ∧ off + n * k = cells.length ∧ room (n + m) bytes then
          some (.ref rows.length [] 0 0 (n + m) k, (rows.set r (some { row with cells := putNav row.cells (p :: ps) .undef })) ++ [some { cells := cells.drop off ++ ys }])
        else none
    | _ => none

def addId (l : List Nat) (r : Nat) : List Nat := if l.contains r then l else l ++ [r]

mutual
def ids (l : List Nat) : D → List Nat
  | .ref r _ _ _ _ _ => addId l r
  | .addr r _ _ _ => addId l r
  | .agg vs => idsL l vs
  | .tup vs => idsL l vs
  | .fn _ vs => idsL l vs
  | .undef => l
  | .bool _ => l
  | .int _ _ => l
  | .str _ => l
  | .slice _ _ _ _ => l
  | .faddr _ _ => l
def idsL (l : List Nat) : List D → List Nat
  | [] => l
  | d :: ds => idsL (ids l d) ds
end

mutual
/-- The rows bear other numbers. -/
def mapD (f : Nat → Nat) : D → D
  | .ref r p v o n k => .ref (f r) p v o n k
  | .addr r p v o => .addr (f r) p v o
  | .agg vs => .agg (mapL f vs)
  | .tup vs => .tup (mapL f vs)
  | .fn g vs => .fn g (mapL f vs)
  | .undef => .undef
  | .bool b => .bool b
  | .int k n => .int k n
  | .str s => .str s
  | .slice o k n cs => .slice o k n cs
  | .faddr c o => .faddr c o
def mapL (f : Nat → Nat) : List D → List D
  | [] => []
  | d :: ds => mapD f d :: mapL f ds
end

mutual
/-- Its rows are among 'l'. -/
def within (l : List Nat) : D → Bool
  | .ref r _ _ _ _ _ => l.contains r
  | .addr r _ _ _ => l.contains r
  | .agg vs => withinL l vs
  | .tup vs => withinL l vs
  | .fn _ vs => withinL l vs
  | .undef => true
  | .bool _ => true
  | .int _ _ => true
  | .str _ => true
  | .slice _ _ _ _ => true
  | .faddr _ _ => true
def withinL (l : List Nat) : List D → Bool
  | [] => true
  | d :: ds => within l d && withinL l ds
end

/-- As seen where only the rows 'l' are, in this order. -/
def maskD (l : List Nat) (d : D) : D := if within l d then mapD (fun r => l.idxOf r) d else .undef

def getRow (rows : Rows) (r : Nat) : Option Row := rows.getD r none
def subRows (rows : Rows) (l : List Nat) : Rows := l.map (getRow rows)

def writeBack (rows : Rows) : List Nat → Rows → Rows
  | i :: is, x :: xs => writeBack (rows.set i x) is xs
  | _, _ => rows

def takeArgs (rows : Rows) : List Mode → List D → Option (Rows × List D)
  | _, [] => some (rows, [])
  | ms, d :: ds => match takeV (ms.headD .share) rows d with
    | none => none
    | some (rs, d) => match takeArgs rs ms.tail ds with
      | none => none
      | some (rs, ds) => some (rs, d :: ds)

/-- What is lent, as the callee sees it. -/
def lendArgs (rows : Rows) : List Mode → List D → Option (List D)
  | _, [] => some []
  | ms, d :: ds => match (if ms.headD .share = .lend then lendV rows d else some d), lendArgs rows ms.tail ds with
    | some d, some ds => some (d :: ds)
    | _, _ => none

def callV (callF : CallF) (g : Nat) (modes : List Mode) (m : Mode) (args : List D) (rows : Rows) : Option (D × Rows) :=
  match takeArgs rows modes args with
  | none => none
  | some (rows, args) =>
    if modes.contains .lend then
      match lendArgs rows modes args with
      | none => none
      | some args => match idsL [] args with
        | [] => match callF g args [] with
          | some (res, []) => if ownOnly res then madeV m rows res else none
          | _ => none
        | _ => none
    else match idsL [] args with
      | [] => match callF g args [] with
        | some (res, []) => madeV m rows res
        | _ => none
      | l => match callF g (args.map (maskD l)) (subRows rows l) with
        | none => none
        | some (res, back) => if back.length = l.length then madeV m (writeBack rows l back) res else none

def mm (min : Bool) : D → List D → Option D
  | x, [] => some x
  | .int k x, .int k' y :: rest => if k = k' then mm min (.int k (if min then (if y < x then y else x) else (if x < y then y else x))) rest else none
  | _, _ => none

def exec (callF : CallF) (vars ts : List D) (rows : Rows) : AOp → Option (D × Rows)
  | .move x => some (opd vars ts x, rows)
  | .assign m x => (match m with
      | .asis => some (opd vars ts x, rows)
      | .lend => none
      | .share => (shareV rows (opd vars ts x)).map fun (rs, v) => (v, rs)
      | .own => let r := adoptV rows (opd vars ts x); some (r.2, r.1))
  | .pick c a b => match opd vars ts c with
    | .bool c => some (if c then opd vars ts a else opd vars ts b, rows)
    | _ => none
  | .alloc zero => some (.addr rows.length [] 0 0, rows ++ [some { cells := zero }])
  | .box x => match giveVs rows (comps (opd vars ts x)) with
    | none => none
    | some (rows, vs) => if vs.all storable then some (.addr rows.length [] 0 0, rows ++ [some { cells := vs }]) else none
  | .build zero parts =>
    if parts.all fun p => !isU (opd vars ts p.2.2) then (fill zero (parts.map fun p => (p.1, p.2.1, comps (opd vars ts p.2.2)))).map fun cs => (.agg cs, rows) else none
  | .buildSlice m zero n parts =>
    match giveVs rows (parts.map fun p => .agg (comps (opd vars ts p.2))) with
    | none => none
    | some (rows, vs) =>
      match fill (zeros zero n) ((parts.zip vs).map fun pv => (pv.1.1, zero.length, comps pv.2)) with
      | none => none
      | some cs => if cs.all storable then madeV m rows (.slice true zero.length n cs) else none
  | .load m agg k a => (match m with
      | .own => takeCells rows agg k (opd vars ts a)
      | .share => match loadV rows agg k (opd vars ts a) with
        | none => none
        | some v => (shareV rows v).map fun (rs, v) => (v, rs)
      | .lend => none
      | .asis => (loadV rows agg k (opd vars ts a)).map fun v => (v, rows))
  | .store scalar k a x => (storeV rows scalar k (opd vars ts a) (opd vars ts x)).map fun rs => (.undef, rs)
  | .bin op x y => (bin op (opd vars ts x) (opd vars ts y)).map fun v => (v, rows)
  | .eqb neg x y => match opd vars ts x, opd vars ts y with
    | .bool a, .bool b => some (.bool (if neg then !(a == b) else a == b), rows)
    | _, _ => none
  | .eqs neg x y => match opd vars ts x, opd vars ts y with
    | .agg a, .agg b => (deqL a b).map fun c => (.bool (if neg then !c else c), rows)
    | _, _ => none
  | .un op x => (un op (opd vars ts x)).map fun v => (v, rows)
  | .conv k x => match opd vars ts x with
    | .int _ n => some (.int k (k.wrap n), rows)
    | _ => none
  | .toBytes m x => match opd vars ts x with
    | .str s => madeV m rows (.slice true 1 s.length (s.map fun b => .int .u8 b.toNat))
    | _ => none
  | .toStr x => (toStrV rows (opd vars ts x)).map fun s => (.str s, rows)
  | .same x => some (opd vars ts x, rows)
  | .makeSlice m zero bytes len cap =>
    match opd vars ts len, opd vars ts cap with
    | .int _ l, .int _ c => if 0 ≤ l ∧ l ≤ c ∧ c ≤ 9223372036854775807 ∧ room c.toNat bytes then madeV m rows (.slice true zero.length l.toNat (zeros zero l.toNat)) else none
    | _, _ => none
  | .slice k x lo hi => (sliceV k (opd vars ts x) (lo.map (opd vars ts)) (hi.map (opd vars ts))).map fun v => (v, rows)
  | .fieldAddr off x => match opd vars ts x with
    | .addr r p v o => some (.addr r p v (o + off), rows)
    | .faddr c o => some (.faddr c (o + off), rows)
    | _ => none
  | .field agg off k x => match opd vars ts x with
    | .agg cs => if off + k ≤ cs.length then (if agg then some (.agg (cut cs off k), rows) else (cs[off]?).map fun v => (v, rows)) else none
    | _ => none
  | .indexAddr k x i => (indexAddrV k (opd vars ts x) (opd vars ts i)).map fun v => (v, rows)
  | .index x i => match opd vars ts x, opd vars ts i with
    | .str s, .int _ i => if 0 ≤ i ∧ i < s.length then (s[i.toNat]?).map fun b => (.int .u8 b.toNat, rows) else none
    | _, _ => none
  | .extract i x => match opd vars ts x with
    | .tup vs => (vs[i]?).map fun v => (v, rows)
    | _ => none
  | .len str x => (lenV str (opd vars ts x)).map fun v => (v, rows)
  | .append scalar k bytes take x y => appendV rows scalar k bytes take (opd vars ts x) (opd vars ts y)
  | .mm min xs => match xs.map (opd vars ts) with
    | [] => none
    | x :: rest => (mm min x rest).map fun v => (v, rows)
  | .nilCheck x => match opd vars ts x with
    | .addr r p v o => some (.addr r p v o, rows)
    | .faddr c o => some (.faddr c o, rows)
    | .fn g caps => some (.fn g caps, rows)
    | _ => none
  | .makeFn g caps => some (.fn g (caps.map (opd vars ts)), rows)
  | .call g modes m args => callV callF g modes m (args.map (opd vars ts)) rows
  | .callV f modes m args => match opd vars ts f with
    | .fn g caps => callV callF g (modes ++ List.replicate (args.length + caps.length) .asis) m (args.map (opd vars ts) ++ caps) rows
    | _ => none

def wanted (ts : List D) : Option (Nat × Bool) → Option Bool
  | none => some true
  | some (j, b) => match ts.getD j .undef with
    | .bool c => some (c == b)
    | .tup [] => some false
    | _ => none

/-- An operation that is passed over: no value. -/
def passed (i : Nat) (dst : Option Nat) (st : St) : St :=
  match dst with
  | none => { st with ts := st.ts.set i (.tup []) }
  | some d => { st with vars := st.vars.set d .undef }

def put (i : Nat) (dst : Option Nat) (v : D) (rows : Rows) (st : St) : St :=
  match dst with
  | none => { st with ts := st.ts.set i v, rows }
  | some d => { st with vars := st.vars.set d v, rows }

def runOps (callF : CallF) : Nat → List AOper → St → Option St
  | _, [], st => some st
  | i, o :: ops, st =>
    match wanted st.ts o.guard with
    | some true =>
      match exec callF st.vars st.ts st.rows o.op with
      | none => none
      | some (v, rows) => runOps callF (i + 1) ops (put i o.dst v rows st)
    | some false => runOps callF (i + 1) ops (passed i o.dst st)
    | none => none

/-- The rows that the caller gave, and those that 'vars' and 'ts' hold, and no others. -/
def compact (st : St) : St :=
  let l := (idsL (List.range st.base) (st.vars ++ st.ts)).filter fun r => decide (r < st.rows.length)
  { vars := st.vars.map (maskD l), ts := st.ts.map (maskD l), rows := subRows st.rows l, base := st.base }

def keepLive (live : List Nat) : Nat → List D → List D
  | _, [] => []
  | i, d :: ds => (if live.contains i then d else .undef) :: keepLive live (i + 1) ds

/-- A loop's head: what is not live is forgotten; rows are numbered by the variables that hold them. -/
def norm (live : List Nat) (st : St) : St := compact { st with vars := keepLive live 0 st.vars, ts := [] }

/-! ### A region whose order is drawn -/
def AOp.opds : AOp → List Opd
  | .move x => [x]
  | .assign _ x => [x]
  | .pick c a b => [c, a, b]
  | .alloc _ => []
  | .box x => [x]
  | .build _ ps => ps.map fun p => p.2.2
  | .buildSlice _ _ _ ps => ps.map fun p => p.2
  | .load _ _ _ a => [a]
  | .store _ _ a x => [a, x]
  | .bin _ x y => [x, y]
  | .eqb _ x y => [x, y]
  | .eqs _ x y => [x, y]
  | .un _ x => [x]
  | .conv _ x => [x]
  | .toBytes _ x => [x]
  | .toStr x => [x]
  | .same x => [x]
  | .makeSlice _ _ _ l c => [l, c]
  | .slice _ x lo hi => x :: (lo.toList ++ hi.toList)
  | .fieldAddr _ x => [x]
  | .field _ _ _ x => [x]
  | .indexAddr _ x i => [x, i]
  | .index x i => [x, i]
  | .extract _ x => [x]
  | .len _ x => [x]
  | .append _ _ _ _ x y => [x, y]
  | .mm _ xs => xs
  | .nilCheck x => [x]
  | .makeFn _ caps => caps
  | .call _ _ _ args => args
  | .callV f _ _ args => f :: args

/-- 0: no rows; 1: no row is changed; 2: rows are changed. -/
def touch : AOp → Nat
  | .move _ => 0
  | .assign .asis _ => 0
  | .pick _ _ _ => 0
  | .build _ _ => 0
  | .bin _ _ _ => 0
  | .eqb _ _ _ => 0
  | .eqs _ _ _ => 0
  | .un _ _ => 0
  | .conv _ _ => 0
  | .same _ => 0
  | .slice _ _ _ _ => 0
  | .fieldAddr _ _ => 0
  | .field _ _ _ _ => 0
  | .indexAddr _ _ _ => 0
  | .index _ _ => 0
  | .extract _ _ => 0
  | .len _ _ => 0
  | .mm _ _ => 0
  | .nilCheck _ => 0
  | .makeFn _ _ => 0
  | .load .asis _ _ _ => 1
  | .toStr _ => 1
  | .alloc _ => 1
  | .makeSlice _ _ _ _ _ => 1
  | .call _ modes _ _ => if modes.contains .lend && modes.all (fun m => m = .lend || m = .asis) then 1 else 2
  | _ => 2

/-- Whether new rows may come of it, or changes of rows. -/
def grows : AOp → Bool
  | .load .asis _ _ _ => false
  | .toStr _ => false
  | op => touch op != 0

def opIds (vars ts : List D) (op : AOp) : List Nat := idsL [] (op.opds.map (opd vars ts))

/-- The numbers kept for the rows that operation i makes. -/
def slotsAt (b : Nat) (ks : List Nat) (i : Nat) : List Nat := List.range' (b + (ks.take i).sum) (ks.getD i 0)

/-- With no rows in sight but 'l'; new ones get the numbers 'new'. -/
def execAt (callF : CallF) (l new : List Nat) (vars ts : List D) (rows : Rows) (op : AOp) : Option (D × Rows) :=
  match exec callF (vars.map (maskD l)) (ts.map (maskD l)) (subRows rows l) op with
  | none => none
  | some (v, back) => if l.length ≤ back.length ∧ back.length ≤ (l ++ new).length then some (mapD (fun k => (l ++ new).getD k 0) v, writeBack rows (l ++ new) back) else none

def execD (callF : CallF) (ks : List Nat) (b i : Nat) (vars ts : List D) (rows : Rows) (op : AOp) : Option (D × Rows) :=
  if grows op then execAt callF (opIds vars ts op) (slotsAt b ks i) vars ts rows op else exec callF vars ts rows op

def stepD (callF : CallF) (ks : List Nat) (b i : Nat) (o : AOper) (s : St × List (List Nat)) : Option (St × List (List Nat)) :=
  match wanted s.1.ts o.guard with
  | some true =>
    match execD callF ks b i s.1.vars s.1.ts s.1.rows o.op with
    | none => none
    | some (v, rows) => some (put i o.dst v rows s.1, s.2.set i (opIds s.1.vars s.1.ts o.op))
  | some false => some (passed i o.dst s.1, s.2)
  | none => none

def runD (callF : CallF) (ks : List Nat) (b : Nat) : Nat → List AOper → St × List (List Nat) → Option (St × List (List Nat))
  | _, [], s => some s
  | i, o :: ops, s => match stepD callF ks b i o s with
    | none => none
    | some s => runD callF ks b (i + 1) ops s

def disj (a b : List Nat) : Bool := a.all fun x => !b.contains x

/-- The rows that an operation looks at, and those that it writes. -/
def reads (op : AOp) (fp : List Nat) : List Nat := if touch op = 0 then [] else fp
def writes (op : AOp) (fp slots : List Nat) : List Nat := if grows op then (if touch op = 2 then fp ++ slots else slots) else []

def apart (ops : List AOper) (fp : List (List Nat)) (ks : List Nat) (b : Nat) (p : Nat × Nat) : Bool :=
  match ops[p.1]?, ops[p.2]? with
  | some x, some y =>
    let wx := writes x.op (fp.getD p.1 []) (slotsAt b ks p.1)
    let wy := writes y.op (fp.getD p.2 []) (slotsAt b ks p.2)
    disj wx (reads y.op (fp.getD p.2 []) ++ wy) && disj wy (reads x.op (fp.getD p.1 []))
  | _, _ => false

def drawn (callF : CallF) (ops : List AOper) (pairs : List (Nat × Nat)) (ks : List Nat) (st : St) : Option St :=
  match runD callF ks st.rows.length 0 ops ({ st with ts := List.replicate ops.length .undef, rows := st.rows ++ List.replicate ks.sum none }, List.replicate ops.length []) with
  | none => none
  | some (st', fp) => if pairs.all (apart ops fp ks st.rows.length) then some (compact st') else none

/-- These variables' values are shared from now on. -/
def shareVars : List Nat → St → Option St
  | [], st => some st
  | i :: is, st => match shareV st.rows (st.vars.getD i .undef) with
    | none => none
    | some (rows, v) => shareVars is { st with vars := st.vars.set i v, rows }

def evalC (callF : CallF) (loopF : List Nat → ACode → St → Option (AExit × St)) : ACode → St → Option (AExit × St)
  | .skip, st => some (.normal, st)
  | .region ops, st => (runOps callF 0 ops { st with ts := List.replicate ops.length .undef }).map fun st => (.normal, st)
  | .draw ops pairs ks, st => (drawn callF ops pairs ks st).map fun st => (.normal, st)
  | .ghost is, st => (shareVars is st).map fun st => (.normal, st)
  | .seq a b, st => match evalC callF loopF a st with
    | some (.normal, st) => evalC callF loopF b st
    | r => r
  | .cond c a b, st => match opd st.vars st.ts c with
    | .bool true => evalC callF loopF a st
    | .bool false => evalC callF loopF b st
    | _ => none
  | .block id body, st => match evalC callF loopF body st with
    | some (.exit id', st) => if id' = id then some (.normal, st) else some (.exit id', st)
    | r => r
  | .loop live body, st => loopF live body (norm live st)
  | .exit id, st => some (.exit id, st)
  | .ret, st => some (.ret, st)

inductive ARes where
  | v (i : Nat)
  | cell (i : Nat) (agg : Bool) (k : Nat)

structure AFn where
  np : Nat
  slots : List Nat
  results : List ARes
  body : ACode

def resV (vars : List D) (rows : Rows) : ARes → Option (Rows × D)
  | .v i => giveV rows (vars.getD i .undef)
  | .cell i agg k => match vars.getD i .undef with
    | .addr r [] _ 0 => match theRow rows r with
      | some row => if row.cells.length = k ∧ row.pub = false then
          (if agg then some (rows.set r none, .agg row.cells) else match row.cells with | [d] => some (rows.set r none, d) | _ => none) else none
      | none => none
    | _ => none

def resVs (vars : List D) (rows : Rows) : List ARes → Option (Rows × List D)
  | [] => some (rows, [])
  | x :: xs => match resV vars rows x with
    | none => none
    | some (rows, d) => match resVs vars rows xs with
      | none => none
      | some (rows, ds) => some (rows, d :: ds)

def results (vars : List D) (rows : Rows) (l : List ARes) : Option (Rows × D) :=
  match resVs vars rows l with
  | none => none
  | some (rows, [d]) => some (rows, d)
  | some (rows, ds) => some (rows, .tup ds)

inductive Fun where
  | code (f : AFn)
  | prim (f : List D → Rows → Option (D × Rows))

def callBody (callF : CallF) (loopF : List Nat → ACode → St → Option (AExit × St)) (f : AFn) (args : List D) (rows : Rows) : Option (D × Rows) :=
  if args.length = f.np then
    let r := adoptVs rows args
    match evalC callF loopF f.body { vars := r.2 ++ List.replicate (f.slots.length - f.np) .undef, ts := [], rows := r.1, base := rows.length } with
    | some (.exit _, _) => none
    | some (_, st) => (results st.vars st.rows f.results).map fun (rs, d) => (d, rs.take rows.length)
    | none => none
  else none

mutual
def callK (T : Nat → Option Fun) : Nat → CallF
  | 0 => fun _ _ _ => none
  | k + 1 => fun g args rows => match T g with
    | some (.code f) => callBody (callK T k) (loopK T k) f args rows
    | some (.prim f) => f args rows
    | none => none
def loopK (T : Nat → Option Fun) : Nat → List Nat → ACode → St → Option (AExit × St)
  | 0 => fun _ _ _ => none
  | k + 1 => fun live body st => match evalC (callK T k) (loopK T k) body st with
    | some (.normal, st) => loopK T k live body (norm live st)
    | r => r
end
end Av
namespace Av
open Go

abbrev LoopF := List Nat → ACode → St → Option (AExit × St)
def CLe (c d : CallF) : Prop := ∀ g a r x, c g a r = some x → d g a r = some x
def LLe (c d : LoopF) : Prop := ∀ l b s x, c l b s = some x → d l b s = some x

/-- What a call hands over, and what is done with what it comes to. -/
def callPlan (ms : List Mode) (m : Mode) (args : List D) (rows : Rows) : Option (List D × Rows × (D × Rows → Option (D × Rows))) :=
  match takeArgs rows ms args with
  | none => none
  | some (rows, args) =>
    if ms.contains .lend then
      match lendArgs rows ms args with
      | none => none
      | some args => match idsL [] args with
        | [] => some (args, [], fun x => match x.2 with | [] => if ownOnly x.1 then madeV m rows x.1 else none | _ => none)
        | _ => none
    else match idsL [] args with
      | [] => some (args, [], fun x => match x.2 with | [] => madeV m rows x.1 | _ => none)
      | l => some (args.map (maskD l), subRows rows l, fun x => if x.2.length = l.length then madeV m (writeBack rows l x.2) x.1 else none)

theorem callV_eq {c : CallF} {g : Nat} {ms : List Mode} {m : Mode} {args : List D} {rows : Rows} : callV c g ms m args rows = match callPlan ms m args rows with
    | none => none
    | some (as, rs, k) => match c g as rs with
      | none => none
      | some x => k x := by
  unfold callV callPlan
  cases takeArgs rows ms args with
  | none => rfl
  | some ra =>
    obtain ⟨rows1, args1⟩ := ra
    simp only
    split
    · cases lendArgs rows1 ms args1 with
      | none => rfl
      | some as =>
        simp only
        cases idsL [] as with
        | cons i l => rfl
        | nil =>
          simp only
          cases c g as [] with
          | none => rfl
          | some x => obtain ⟨r, b⟩ := x; cases b <;> rfl
    · cases idsL [] args1 with
      | nil =>
        simp only
        cases c g args1 [] with
        | none => rfl
        | some x => obtain ⟨r, b⟩ := x; cases b <;> rfl
      | cons i l =>
        simp only
        cases c g (args1.map (maskD (i :: l))) (subRows rows1 (i :: l)) with
        | none => rfl
        | some x => rfl

theorem callV_mono {c d : CallF} (h : CLe c d) {g : Nat} {ms : List Mode} {m : Mode} {args : List D} {rows : Rows} {x : D × Rows} (hx : callV c g ms m args rows = some x) : callV d g ms m args rows = some x := by
  rw [callV_eq] at hx ⊢
  cases hp : callPlan ms m args rows with
  | none => rw [hp] at hx; simp at hx
  | some p =>
    obtain ⟨as, rs, k⟩ := p
    rw [hp] at hx
    simp only at hx ⊢
    cases hc : c g as rs with
    | none => rw [hc] at hx; simp at hx
    | some y =>
      rw [hc] at hx
      rw [h _ _ _ _ hc]
      exact hx

theorem exec_mono {c d : CallF} (h : CLe c d) {vars ts : List D} {rows : Rows} {op : AOp} {x : D × Rows} (hx : exec c vars ts rows op = some x) : exec d vars ts rows op = some x := by
  cases op
  case call g ms m xs => simp only [exec] at hx ⊢; exact callV_mono h hx
  case callV f ms m xs =>
    simp only [exec] at hx ⊢
    split at hx
    · exact callV_mono h hx
    · simp at hx
  all_goals exact hx

theorem runOps_mono {c d : CallF} (h : CLe c d) : ∀ {ops : List AOper} {i : Nat} {st st' : St}, runOps c i ops st = some st' → runOps d i ops st = some st'
  | [], _, _, _, hx => by simpa [runOps] using hx
  | o :: ops, i, st, st', hx => by
    simp only [runOps] at hx ⊢
    split at hx
    · split at hx
      · simp at hx
      · rename_i he
        rw [exec_mono h he]
        exact runOps_mono h hx
    · exact runOps_mono h hx
    · simp at hx

theorem execD_mono {c d : CallF} (h : CLe c d) {ks : List Nat} {b i : Nat} {vars ts : List D} {rows : Rows} {op : AOp} {x : D × Rows} (hx : execD c ks b i vars ts rows op = some x) : execD d ks b i vars ts rows op = some x := by
  unfold execD at hx ⊢
  split at hx
  · rename_i hg
    rw [if_pos hg]
    unfold execAt at hx ⊢
    split at hx
    · simp at hx
    · rename_i he
      rw [exec_mono h he]
      exact hx
  · rename_i hg
    rw [if_neg hg]
    exact exec_mono h hx

theorem runD_mono {c d : CallF} (h : CLe c d) {ks : List Nat} {b : Nat} : ∀ {ops : List AOper} {i : Nat} {s s' : St × List (List Nat)}, runD c ks b i ops s = some s' → runD d ks b i ops s = some s'
  | [], _, _, _, hx => by simpa [runD] using hx
  | o :: ops, i, s, s', hx => by
    simp only [runD, stepD] at hx ⊢
    split at hx
    · simp at hx
    rename_i s1 h1
    split at h1
    · rename_i hw
      split at h1
      · simp at h1
      · rename_i he
        simp only [Option.some.injEq] at h1
        rw [execD_mono h he]
        subst h1
        exact runD_mono h hx
    · simp only [Option.some.injEq] at h1
      subst h1
      exact runD_mono h hx
    · simp at h1

theorem drawn_mono {c d : CallF} (h : CLe c d) {ops : List AOper} {pairs : List (Nat × Nat)} {ks : List Nat} {st st' : St} (hx : drawn c ops pairs ks st = some st') : drawn d ops pairs ks st = some st' := by
  unfold drawn at hx ⊢
  split at hx
  · simp at hx
  · rename_i hr
    rw [runD_mono h hr]
    exact hx

theorem evalC_mono {c d : CallF} {l m : LoopF} (h : CLe c d) (hl : LLe l m) : ∀ {ac : ACode} {st : St} {x : AExit × St}, evalC c l ac st = some x → evalC d m ac st = some x
  | .skip, _, _, hx => hx
  | .region ops, st, x, hx => by
    simp only [evalC] at hx ⊢
    obtain ⟨s, h1, h2⟩ := Option.map_eq_some_iff.1 hx
    rw [runOps_mono h h1]; simpa using h2
  | .draw ops ps ks, st, x, hx => by
    simp only [evalC] at hx ⊢
    obtain ⟨s, h1, h2⟩ := Option.map_eq_some_iff.1 hx
    rw [drawn_mono h h1]; simpa using h2
  | .ghost is, _, _, hx => hx
  | .seq a b, st, x, hx => by
    simp only [evalC] at hx ⊢
    split at hx
    · rename_i s1 h1
      rw [evalC_mono h hl h1]
      exact evalC_mono h hl hx
    · rename_i hn
      rw [evalC_mono h hl hx]
      obtain ⟨e, s⟩ := x
      cases e with
      | normal => exact absurd hx (hn s)
      | exit i => rfl
      | ret => rfl
  | .cond c' a b, st, x, hx => by
    simp only [evalC] at hx ⊢
    split at hx
    · exact evalC_mono h hl hx
    · exact evalC_mono h hl hx
    · simp at hx
  | .block id a, st, x, hx => by
    simp only [evalC] at hx ⊢
    split at hx
    · rename_i id' s1 h1
      rw [evalC_mono h hl h1]
      exact hx
    · rename_i hn
      rw [evalC_mono h hl hx]
      obtain ⟨e, s⟩ := x
      cases e with
      | normal => rfl
      | exit i => exact absurd hx (hn i s)
      | ret => rfl
  | .loop live a, st, x, hx => by
    simp only [evalC] at hx ⊢
    exact hl _ _ _ _ hx
  | .exit _, _, _, hx => hx
  | .ret, _, _, hx => hx

theorem callBody_mono {c d : CallF} {l m : LoopF} (h : CLe c d) (hl : LLe l m) {f : AFn} {args : List D} {rows : Rows} {x : D × Rows} (hx : callBody c l f args rows = some x) : callBody d m f args rows = some x := by
  unfold callBody at hx ⊢
  split at hx
  · rename_i hn
    rw [if_pos hn]
    simp only at hx ⊢
    split at hx
    · simp at hx
    · rename_i e st hne he
      rw [evalC_mono h hl he]
      cases e with
      | normal => exact hx
      | ret => exact hx
      | exit i => exact absurd rfl (hne i)
    · simp at hx
  · simp at hx

theorem step_mono {T : Nat → Option Fun} : ∀ k, CLe (callK T k) (callK T (k + 1)) ∧ LLe (loopK T k) (loopK T (k + 1))
  | 0 => ⟨fun g a r x h => by simp [callK] at h, fun l b s x h => by simp [loopK] at h⟩
  | k + 1 => by
    obtain ⟨h1, h2⟩ := step_mono (T := T) k
    refine ⟨fun g a r x h => ?_, fun l b s x h => ?_⟩
    · rw [callK] at h ⊢
      dsimp only at h ⊢
      split at h
      · exact callBody_mono h1 h2 h
      · exact h
      · simp at h
    · rw [loopK] at h ⊢
      dsimp only at h ⊢
      split at h
      · rename_i s1 hs
        rw [evalC_mono h1 h2 hs]
        exact h2 _ _ _ _ h
      · rename_i hn
        rw [evalC_mono h1 h2 h]
        obtain ⟨e, s'⟩ := x
        cases e with
        | normal => exact absurd h (hn s')
        | exit i => rfl
        | ret => rfl

theorem more {T : Nat → Option Fun} (k : Nat) : ∀ d, CLe (callK T k) (callK T (k + d)) ∧ LLe (loopK T k) (loopK T (k + d))
  | 0 => ⟨fun _ _ _ _ h => h, fun _ _ _ _ h => h⟩
  | d + 1 => by
    obtain ⟨h1, h2⟩ := more (T := T) k d
    obtain ⟨g1, g2⟩ := step_mono (T := T) (k + d)
    exact ⟨fun _ _ _ _ h => g1 _ _ _ _ (h1 _ _ _ _ h), fun _ _ _ _ h => g2 _ _ _ _ (h2 _ _ _ _ h)⟩
theorem more_le {T : Nat → Option Fun} {k n : Nat} (h : k ≤ n) : CLe (callK T k) (callK T n) ∧ LLe (loopK T k) (loopK T n) := by
  have := more (T := T) k (n - k)
  rw [show k + (n - k) = n by omega] at this
  exact this

open Classical in
/-- Calls and loops with as many steps as they want. -/
noncomputable def callW (T : Nat → Option Fun) : CallF := fun g a r => if h : ∃ k x, callK T k g a r = some x then some h.choose_spec.choose else none
open Classical in
noncomputable def loopW (T : Nat → Option Fun) : LoopF := fun l b s => if h : ∃ k x, loopK T k l b s = some x then some h.choose_spec.choose else none

theorem callW_iff {T : Nat → Option Fun} {g : Nat} {a : List D} {r : Rows} {x : D × Rows} : callW T g a r = some x ↔ ∃ k, callK T k g a r = some x := by
  unfold callW
  constructor
  · intro h
    split at h
    · rename_i hh
      simp only [Option.some.injEq] at h
      exact ⟨hh.choose, by rw [← h]; exact hh.choose_spec.choose_spec⟩
    · simp at h
  · rintro ⟨k, hk⟩
    have hh : ∃ k x, callK T k g a r = some x := ⟨k, x, hk⟩
    rw [dif_pos hh]
    have h1 := hh.choose_spec.choose_spec
    have a1 := (more_le (T := T) (Nat.le_max_left hh.choose k)).1 _ _ _ _ h1
    have a2 := (more_le (T := T) (Nat.le_max_right hh.choose k)).1 _ _ _ _ hk
    rw [a1] at a2
    exact a2
theorem loopW_iff {T : Nat → Option Fun} {l : List Nat} {b : ACode} {s : St} {x : AExit × St} : loopW T l b s = some x ↔ ∃ k, loopK T k l b s = some x := by
  unfold loopW
  constructor
  · intro h
    split at h
    · rename_i hh
      simp only [Option.some.injEq] at h
      exact ⟨hh.choose, by rw [← h]; exact hh.choose_spec.choose_spec⟩
    · simp at h
  · rintro ⟨k, hk⟩
    have hh : ∃ k x, loopK T k l b s = some x := ⟨k, x, hk⟩
    rw [dif_pos hh]
    have h1 := hh.choose_spec.choose_spec
    have a1 := (more_le (T := T) (Nat.le_max_left hh.choose k)).2 _ _ _ _ h1
    have a2 := (more_le (T := T) (Nat.le_max_right hh.choose k)).2 _ _ _ _ hk
    rw [a1] at a2
    exact a2

section
variable {T : Nat → Option Fun}

theorem callV_lim {g : Nat} {ms : List Mode} {m : Mode} {args : List D} {rows : Rows} {x : D × Rows} (hx : callV (callW T) g ms m args rows = some x) : ∃ k, callV (callK T k) g ms m args rows = some x := by
  simp only [callV_eq] at hx ⊢
  cases hp : callPlan ms m args rows with
  | none => rw [hp] at hx; simp at hx
  | some p =>
    obtain ⟨as, rs, k⟩ := p
    rw [hp] at hx
    simp only at hx ⊢
    cases hc : callW T g as rs with
    | none => rw [hc] at hx; simp at hx
    | some y =>
      rw [hc] at hx
      obtain ⟨n, hn⟩ := callW_iff.1 hc
      exact ⟨n, by rw [hn]; exact hx⟩

theorem exec_lim {vars ts : List D} {rows : Rows} {op : AOp} {x : D × Rows} (hx : exec (callW T) vars ts rows op = some x) : ∃ k, exec (callK T k) vars ts rows op = some x := by
  cases op
  case call g ms m xs => simp only [exec] at hx ⊢; exact callV_lim hx
  case callV f ms m xs =>
    simp only [exec] at hx ⊢
    split at hx
    · exact callV_lim hx
    · simp at hx
  all_goals exact ⟨0, hx⟩

theorem runOps_lim : ∀ {ops : List AOper} {i : Nat} {st st' : St}, runOps (callW T) i ops st = some st' → ∃ k, runOps (callK T k) i ops st = some st'
  | [], _, _, _, hx => ⟨0, by simpa [runOps] using hx⟩
  | o :: ops, i, st, st', hx => by
    simp only [runOps] at hx ⊢
    split at hx
    · split at hx
      · simp at hx
      · rename_i he
        obtain ⟨k1, h1⟩ := exec_lim he
        obtain ⟨k2, h2⟩ := runOps_lim hx
        refine ⟨max k1 k2, ?_⟩
        rw [exec_mono (more_le (Nat.le_max_left k1 k2)).1 h1]
        exact runOps_mono (more_le (Nat.le_max_right k1 k2)).1 h2
    · exact runOps_lim hx
    · simp at hx

theorem execD_lim {ks : List Nat} {b i : Nat} {vars ts : List D} {rows : Rows} {op : AOp} {x : D × Rows} (hx : execD (callW T) ks b i vars ts rows op = some x) : ∃ k, execD (callK T k) ks b i vars ts rows op = some x := by
  unfold execD at hx ⊢
  split at hx
  · rename_i hg
    simp only [hg, if_true]
    unfold execAt at hx ⊢
    split at hx
    · simp at hx
    · rename_i he
      obtain ⟨k, hk⟩ := exec_lim he
      exact ⟨k, by rw [hk]; exact hx⟩
  · rename_i hg
    simp only [hg]
    exact exec_lim hx

theorem runD_lim {ks : List Nat} {b : Nat} : ∀ {ops : List AOper} {i : Nat} {s s' : St × List (List Nat)}, runD (callW T) ks b i ops s = some s' → ∃ k, runD (callK T k) ks b i ops s = some s'
  | [], _, _, _, hx => ⟨0, by simpa [runD] using hx⟩
  | o :: ops, i, s, s', hx => by
    simp only [runD, stepD] at hx ⊢
    split at hx
    · simp at hx
    rename_i s1 h1
    split at h1
    · rename_i hw
      split at h1
      · simp at h1
      · rename_i he
        simp only [Option.some.injEq] at h1
        subst h1
        obtain ⟨k1, h1⟩ := execD_lim he
        obtain ⟨k2, h2⟩ := runD_lim hx
        refine ⟨max k1 k2, ?_⟩
        rw [execD_mono (more_le (Nat.le_max_left k1 k2)).1 h1]
        exact runD_mono (more_le (Nat.le_max_right k1 k2)).1 h2
    · simp only [Option.some.injEq] at h1
      subst h1
      exact runD_lim hx
    · simp at h1

theorem drawn_lim {ops : List AOper} {pairs : List (Nat × Nat)} {ks : List Nat} {st st' : St} (hx : drawn (callW T) ops pairs ks st = some st') : ∃ k, drawn (callK T k) ops pairs ks st = some st' := by
  unfold drawn at hx ⊢
  split at hx
  · simp at hx
  · rename_i hr
    obtain ⟨k, hk⟩ := runD_lim hr
    exact ⟨k, by rw [hk]; exact hx⟩

theorem evalC_lim : ∀ {ac : ACode} {st : St} {x : AExit × St}, evalC (callW T) (loopW T) ac st = some x → ∃ k, evalC (callK T k) (loopK T k) ac st = some x
  | .skip, _, _, hx => ⟨0, hx⟩
  | .region ops, st, x, hx => by
    simp only [evalC] at hx ⊢
    obtain ⟨s, h1, h2⟩ := Option.map_eq_some_iff.1 hx
    obtain ⟨k, hk⟩ := runOps_lim h1
    exact ⟨k, by rw [hk]; simpa using h2⟩
  | .draw ops ps ks, st, x, hx => by
    simp only [evalC] at hx ⊢
    obtain ⟨s, h1, h2⟩ := Option.map_eq_some_iff.1 hx
    obtain ⟨k, hk⟩ := drawn_lim h1
    exact ⟨k, by rw [hk]; simpa using h2⟩
  | .ghost is, _, _, hx => ⟨0, hx⟩
  | .seq a b, st, x, hx => by
    simp only [evalC] at hx ⊢
    split at hx
    · rename_i s1 h1
      obtain ⟨k1, g1⟩ := evalC_lim h1
      obtain ⟨k2, g2⟩ := evalC_lim hx
      obtain ⟨m1, m2⟩ := more_le (T := T) (Nat.le_max_left k1 k2)
      obtain ⟨n1, n2⟩ := more_le (T := T) (Nat.le_max_right k1 k2)
      refine ⟨max k1 k2, ?_⟩
      rw [evalC_mono m1 m2 g1]
      exact evalC_mono n1 n2 g2
    · rename_i hn
      obtain ⟨k, g⟩ := evalC_lim hx
      refine ⟨k, ?_⟩
      rw [g]
      obtain ⟨e, s⟩ := x
      cases e with
      | normal => exact absurd hx (hn s)
      | exit i => rfl
      | ret => rfl
  | .cond c' a b, st, x, hx => by
    simp only [evalC] at hx ⊢
    split at hx
    · exact evalC_lim hx
    · exact evalC_lim hx
    · simp at hx
  | .block id a, st, x, hx => by
    simp only [evalC] at hx ⊢
    split at hx
    · rename_i id' s1 h1
      obtain ⟨k, g⟩ := evalC_lim h1
      exact ⟨k, by rw [g]; exact hx⟩
    · rename_i hn
      obtain ⟨k, g⟩ := evalC_lim hx
      refine ⟨k, ?_⟩
      rw [g]
      obtain ⟨e, s⟩ := x
      cases e with
      | normal => rfl
      | exit i => exact absurd hx (hn i s)
      | ret => rfl
  | .loop live a, st, x, hx => by
    simp only [evalC] at hx ⊢
    exact loopW_iff.1 hx
  | .exit _, _, _, hx => ⟨0, hx⟩
  | .ret, _, _, hx => ⟨0, hx⟩

/-- A function of the table. -/
theorem callW_code {g : Nat} {f : AFn} {args : List D} {rows : Rows} {x : D × Rows} (hT : T g = some (.code f)) (h : callBody (callW T) (loopW T) f args rows = some x) : callW T g args rows = some x := by
  have : ∃ k, callBody (callK T k) (loopK T k) f args rows = some x := by
    unfold callBody at h ⊢
    split at h
    · rename_i hn
      simp only at h ⊢
      split at h
      · simp at h
      · rename_i e st hne he
        obtain ⟨k, hk⟩ := evalC_lim he
        refine ⟨k, ?_⟩
        rw [if_pos hn, hk]
        cases e with
        | normal => exact h
        | ret => exact h
        | exit i => exact absurd rfl (hne i)
      · simp at h
    · simp at h
  obtain ⟨k, hk⟩ := this
  exact callW_iff.2 ⟨k + 1, by rw [callK]; dsimp only; rw [hT]; exact hk⟩
theorem callW_prim {g : Nat} {p : List D → Rows → Option (D × Rows)} {args : List D} {rows : Rows} {x : D × Rows} (hT : T g = some (.prim p)) (h : p args rows = some x) : callW T g args rows = some x :=
  callW_iff.2 ⟨1, by rw [callK]; dsimp only; rw [hT]; exact h⟩

/-- A loop's round. -/
theorem loopW_next {live : List Nat} {body : ACode} {st st1 : St} {x : AExit × St} (h1 : evalC (callW T) (loopW T) body st = some (.normal, st1)) (h2 : loopW T live body (norm live st1) = some x) : loopW T live body st = some x := by
  obtain ⟨k1, g1⟩ := evalC_lim h1
  obtain ⟨k2, g2⟩ := loopW_iff.1 h2
  obtain ⟨m1, m2⟩ := more_le (T := T) (Nat.le_max_left k1 k2)
  obtain ⟨n1, n2⟩ := more_le (T := T) (Nat.le_max_right k1 k2)
  exact loopW_iff.2 ⟨max k1 k2 + 1, by rw [loopK]; dsimp only; rw [evalC_mono m1 m2 g1]; exact n2 _ _ _ _ g2⟩
theorem loopW_done {live : List Nat} {body : ACode} {st st1 : St} {e : AExit} (he : e ≠ .normal) (h1 : evalC (callW T) (loopW T) body st = some (e, st1)) : loopW T live body st = some (e, st1) := by
  obtain ⟨k1, g1⟩ := evalC_lim h1
  refine loopW_iff.2 ⟨k1 + 1, ?_⟩
  rw [loopK]
  dsimp only
  rw [g1]
  cases e with
  | normal => exact absurd rfl he
  | exit i => rfl
  | ret => rfl
end
end Av
namespace Av.F
open Go

/-- credence/rational.Normalize -/
def f61 : AFn := ⟨1, [0, 1, 2], [.cell 2 true 3],
  (.seq (.region [⟨.box (.v 0), (some 1), none⟩,
    ⟨.alloc [(.bool false), (.slice true 1 0 []), (.slice true 1 0 [])], (some 2), none⟩])
  (.seq (.region [⟨.fieldAddr 0 (.v 1), none, none⟩,
    ⟨.load .asis false 1 (.t 0), none, none⟩,
    ⟨.fieldAddr 1 (.v 1), none, none⟩,
    ⟨.load .asis false 1 (.t 2), none, none⟩,
    ⟨.fieldAddr 2 (.v 1), none, none⟩,
    ⟨.load .asis false 1 (.t 4), none, none⟩,
    ⟨.call 16 [.asis, .share, .share] .own [(.t 1), (.t 3), (.t 5)], none, none⟩,
    ⟨.store false 3 (.v 2) (.t 6), none, none⟩])
  .ret))⟩

/-- credence/rational.Format -/
def f60 : AFn := ⟨1, [0, 1, 2, 3], [.v 2],
  (.seq (.region [⟨.box (.v 0), (some 1), none⟩,
    ⟨.assign .asis (.c (.str [])), (some 2), none⟩])
  (.seq (.region [⟨.load .asis true 3 (.v 1), none, none⟩,
    ⟨.call 61 [.lend] .own [(.t 0)], none, none⟩,
    ⟨.store false 3 (.v 1) (.t 1), none, none⟩])
  (.seq (.region [⟨.fieldAddr 1 (.v 1), none, none⟩,
    ⟨.load .asis false 1 (.t 0), none, none⟩,
    ⟨.call 59 [.lend] .own [(.t 1)], none, none⟩,
    ⟨.assign .own (.t 2), (some 3), none⟩])
  (.seq (.seq (.region [⟨.fieldAddr 0 (.v 1), none, none⟩,
    ⟨.load .asis false 1 (.t 0), none, none⟩])
  (.cond (.t 1)
   (.region [⟨.move (.v 3), none, none⟩,
     ⟨.bin .add (.c (.str [45])) (.t 0), none, none⟩,
     ⟨.assign .own (.t 1), (some 3), none⟩])
   .skip))
  (.seq (.seq (.region [⟨.fieldAddr 2 (.v 1), none, none⟩,
    ⟨.load .asis false 1 (.t 0), none, none⟩,
    ⟨.len false (.t 1), none, none⟩,
    ⟨.bin .gtr (.t 2) (.c (.int .i64 1)), none, none⟩,
    ⟨.move (.t 3), none, none⟩,
    ⟨.fieldAddr 2 (.v 1), none, (some (4, false))⟩,
    ⟨.load .asis false 1 (.t 5), none, (some (4, false))⟩,
    ⟨.indexAddr 1 (.t 6) (.c (.int .i64 0)), none, (some (4, false))⟩,
    ⟨.load .asis false 1 (.t 7), none, (some (4, false))⟩,
    ⟨.bin .neq (.t 8) (.c (.int .u32 1)), none, (some (4, false))⟩,
    ⟨.pick (.t 4) (.c (.bool true)) (.t 9), none, none⟩])
  (.cond (.t 10)
   (.region [⟨.move (.v 3), none, none⟩,
     ⟨.fieldAddr 2 (.v 1), none, none⟩,
     ⟨.load .asis false 1 (.t 1), none, none⟩,
     ⟨.call 59 [.lend] .share [(.t 2)], none, none⟩,
     ⟨.bin .add (.c (.str [47])) (.t 3), none, none⟩,
     ⟨.bin .add (.t 0) (.t 4), none, none⟩,
     ⟨.assign .own (.t 5), (some 3), none⟩])
   .skip))
  (.seq (.region [⟨.move (.v 3), none, none⟩,
    ⟨.assign .own (.t 0), (some 2), none⟩])
  .ret))))))⟩

/-- credence/bignat.Format -/
def f59 : AFn := ⟨1, [0, 2, 3, 4, 5, 6, 7], [.v 1],
  (.seq (.region [⟨.assign .asis (.c (.str [])), (some 1), none⟩])
  (.seq (.region [⟨.move (.v 0), none, none⟩,
    ⟨.call 18 [.asis] .share [(.t 0)], none, none⟩,
    ⟨.assign .asis (.t 1), (some 0), none⟩])
  (.seq (.seq (.region [⟨.move (.v 0), none, none⟩,
    ⟨.len false (.t 0), none, none⟩,
    ⟨.bin .eql (.t 1) (.c (.int .i64 0)), none, none⟩])
  (.cond (.t 2)
   (.seq (.region [⟨.assign .asis (.c (.str [48])), (some 1), none⟩])
   .ret)
   .skip))
  (.seq (.region [⟨.assign .own (.c (.slice true 1 0 [])), (some 2), none⟩])
  (.seq (.block 0 (.loop [0, 2]
   (.seq (.seq (.region [⟨.move (.v 0), none, none⟩,
     ⟨.len false (.t 0), none, none⟩,
     ⟨.bin .gtr (.t 1) (.c (.int .i64 0)), none, none⟩])
   (.cond (.t 2)
    .skip
    (.exit 0)))
   (.block 1 (.seq (.region [⟨.assign .asis (.c (.int .u32 0)), (some 3), none⟩])
   (.seq (.region [⟨.move (.v 0), none, none⟩,
     ⟨.call 24 [.asis, .asis] .share [(.t 0), (.c (.int .u32 1000000000))], none, none⟩,
     ⟨.move (.t 1), none, none⟩,
     ⟨.extract 0 (.t 2), none, none⟩,
     ⟨.extract 1 (.t 2), none, none⟩,
     ⟨.assign .asis (.t 3), (some 0), none⟩,
     ⟨.assign .asis (.t 4), (some 3), none⟩])
   (.seq (.region [⟨.assign .asis (.c (.int .i64 0)), (some 4), none⟩])
   (.block 2 (.loop [0, 2, 3, 4]
    (.seq (.seq (.region [⟨.move (.v 4), none, none⟩,
      ⟨.bin .lss (.t 0) (.c (.int .i64 9)), none, none⟩,
      ⟨.move (.t 1), none, none⟩,
      ⟨.move (.v 0), none, (some (2, true))⟩,
      ⟨.len false (.t 3), none, (some (2, true))⟩,
      ⟨.bin .gtr (.t 4) (.c (.int .i64 0)), none, (some (2, true))⟩,
      ⟨.move (.t 5), none, (some (2, true))⟩,
      ⟨.move (.v 3), none, (some (6, false))⟩,
      ⟨.bin .gtr (.t 7) (.c (.int .u32 0)), none, (some (6, false))⟩,
      ⟨.pick (.t 6) (.c (.bool true)) (.t 8), none, (some (2, true))⟩,
      ⟨.pick (.t 2) (.t 9) (.c (.bool false)), none, none⟩])
    (.cond (.t 10)
     .skip
     (.exit 2)))
    (.seq (.block 3 (.seq (.region [⟨.move (.v 2), none, none⟩,
      ⟨.move (.v 3), none, none⟩,
      ⟨.bin .rem (.t 1) (.c (.int .u32 10)), none, none⟩,
      ⟨.bin .add (.c (.int .u32 48)) (.t 2), none, none⟩,
      ⟨.conv .u8 (.t 3), none, none⟩,
      ⟨.buildSlice .own [(.int .u8 0)] 1 [(0, (.t 4))], none, none⟩,
      ⟨.append true 1 1 true (.t 0) (.t 5), none, none⟩,
      ⟨.assign .own (.t 6), (some 2), none⟩])
    (.region [⟨.move (.v 3), none, none⟩,
      ⟨.bin .quo (.t 0) (.c (.int .u32 10)), none, none⟩,
      ⟨.assign .asis (.t 1), (some 3), none⟩])))
    (.region [⟨.move (.v 4), none, none⟩,
      ⟨.bin .add (.t 0) (.c (.int .i64 1)), none, none⟩,
      ⟨.assign .asis (.t 1), (some 4), none⟩]))))))))))))
  (.seq (.seq (.region [⟨.move (.v 2), none, none⟩,
    ⟨.len false (.t 0), none, none⟩,
    ⟨.bin .sub (.t 1) (.c (.int .i64 1)), none, none⟩,
    ⟨.assign .asis (.c (.int .i64 0)), (some 5), none⟩,
    ⟨.assign .asis (.t 2), (some 6), none⟩])
  (.block 4 (.loop [2, 5, 6]
   (.seq (.seq (.region [⟨.move (.v 5), none, none⟩,
     ⟨.move (.v 6), none, none⟩,
     ⟨.bin .lss (.t 0) (.t 1), none, none⟩])
   (.cond (.t 2)
    .skip
    (.exit 4)))
   (.seq (.block 5 (.draw [⟨.move (.v 2), none, none⟩,
     ⟨.move (.v 5), none, none⟩,
     ⟨.move (.v 2), none, none⟩,
     ⟨.move (.v 6), none, none⟩,
     ⟨.move (.v 2), none, none⟩,
     ⟨.move (.v 6), none, none⟩,
     ⟨.indexAddr 1 (.t 4) (.t 5), none, none⟩,
     ⟨.load .asis false 1 (.t 6), none, none⟩,
     ⟨.move (.v 2), none, none⟩,
     ⟨.move (.v 5), none, none⟩,
     ⟨.indexAddr 1 (.t 8) (.t 9), none, none⟩,
     ⟨.load .asis false 1 (.t 10), none, none⟩,
     ⟨.indexAddr 1 (.t 0) (.t 1), none, none⟩,
     ⟨.store true 1 (.t 12) (.t 7), none, none⟩,
     ⟨.indexAddr 1 (.t 2) (.t 3), none, none⟩,
     ⟨.store true 1 (.t 14) (.t 11), none, none⟩] [] [0, 0, 0, 0, 0, 0, 0, 0, 0, 0, 0, 0, 0, 0, 0, 0]))
   (.region [⟨.move (.v 5), none, none⟩,
     ⟨.bin .add (.t 0) (.c (.int .i64 1)), none, none⟩,
     ⟨.move (.v 6), none, none⟩,
     ⟨.bin .sub (.t 2) (.c (.int .i64 1)), none, none⟩,
     ⟨.assign .asis (.t 1), (some 5), none⟩,
     ⟨.assign .asis (.t 3), (some 6), none⟩]))))))
  (.seq (.region [⟨.move (.v 2), none, none⟩,
    ⟨.toStr (.t 0), none, none⟩,
    ⟨.assign .own (.t 1), (some 1), none⟩])
  .ret)))))))⟩

/-- credence/rational.Mul -/
def f58 : AFn := ⟨2, [0, 1, 2, 3, 4, 5, 6, 7, 8, 9, 10], [.cell 4 true 3],
  (.seq (.region [⟨.box (.v 0), (some 2), none⟩,
    ⟨.box (.v 1), (some 3), none⟩,
    ⟨.alloc [(.bool false), (.slice true 1 0 []), (.slice true 1 0 [])], (some 4), none⟩])
  (.seq (.region [⟨.load .asis true 3 (.v 2), none, none⟩,
    ⟨.call 5 [.share] .share [(.t 0)], none, none⟩,
    ⟨.move (.t 1), none, none⟩,
    ⟨.extract 0 (.t 2), none, none⟩,
    ⟨.extract 1 (.t 2), none, none⟩,
    ⟨.extract 2 (.t 2), none, none⟩,
    ⟨.assign .asis (.t 3), (some 5), none⟩,
    ⟨.assign .asis (.t 4), (some 6), none⟩,
    ⟨.assign .asis (.t 5), (some 7), none⟩])
  (.seq (.region [⟨.load .asis true 3 (.v 3), none, none⟩,
    ⟨.call 5 [.share] .share [(.t 0)], none, none⟩,
    ⟨.move (.t 1), none, none⟩,
    ⟨.extract 0 (.t 2), none, none⟩,
    ⟨.extract 1 (.t 2), none, none⟩,
    ⟨.extract 2 (.t 2), none, none⟩,
    ⟨.assign .asis (.t 3), (some 8), none⟩,
    ⟨.assign .asis (.t 4), (some 9), none⟩,
    ⟨.assign .asis (.t 5), (some 10), none⟩])
  (.seq (.region [⟨.move (.v 5), none, none⟩,
    ⟨.move (.v 8), none, none⟩,
    ⟨.eqb true (.t 0) (.t 1), none, none⟩,
    ⟨.move (.v 6), none, none⟩,
    ⟨.move (.v 9), none, none⟩,
    ⟨.call 14 [.asis, .asis] .share [(.t 3), (.t 4)], none, none⟩,
    ⟨.move (.v 7), none, none⟩,
    ⟨.move (.v 10), none, none⟩,
    ⟨.call 14 [.asis, .asis] .share [(.t 6), (.t 7)], none, none⟩,
    ⟨.call 16 [.asis, .asis, .asis] .own [(.t 2), (.t 5), (.t 8)], none, none⟩,
    ⟨.store false 3 (.v 4) (.t 9), none, none⟩])
  .ret))))⟩

/-- credence/worlds.Prob -/
def f57 : AFn := ⟨2, [0, 1, 2, 4, 5, 6, 7, 8, 16, 17, 18], [.cell 3 true 3, .v 4],
  (.seq (.region [⟨.box (.v 0), (some 2), none⟩,
    ⟨.alloc [(.bool false), (.slice true 1 0 []), (.slice true 1 0 [])], (some 3), none⟩,
    ⟨.assign .asis (.c (.int .i64 0)), (some 4), none⟩])
  (.seq (.seq (.region [⟨.load .asis true 1 (.v 2), none, none⟩,
    ⟨.move (.v 1), none, none⟩,
    ⟨.call 39 [.lend, .asis] .share [(.t 0), (.t 1)], none, none⟩,
    ⟨.un .not (.t 2), none, none⟩])
  (.cond (.t 3)
   (.seq (.region [⟨.build [(.bool false), (.slice true 1 0 []), (.slice true 1 0 [])] [], none, none⟩,
     ⟨.store false 3 (.v 3) (.t 0), none, none⟩,
     ⟨.assign .asis (.c (.int .i64 1)), (some 4), none⟩])
   .ret)
   .skip))
  (.seq (.region [⟨.build [(.bool false), (.slice true 1 0 []), (.slice true 1 0 [])] [], none, none⟩,
    ⟨.call 31 [.asis] .own [(.t 0)], none, none⟩,
    ⟨.alloc [(.bool false), (.slice true 1 0 []), (.slice true 1 0 [])], (some 5), none⟩,
    ⟨.store false 3 (.v 5) (.t 1), none, none⟩])
  (.seq (.seq (.region [⟨.assign .asis (.v 1), (some 8), none⟩,
    ⟨.len false (.v 8), (some 9), none⟩,
    ⟨.assign .asis (.c (.int .i64 0)), (some 10), none⟩])
  (.block 0 (.loop [2, 3, 5, 8, 9, 10]
   (.seq (.region [⟨.bin .lss (.v 10) (.v 9), none, none⟩])
   (.seq (.cond (.t 0)
    .skip
    (.exit 0))
   (.seq (.block 1 (.seq (.region [⟨.move (.v 10), none, none⟩,
     ⟨.indexAddr 1 (.v 8) (.v 10), none, none⟩,
     ⟨.load .asis false 1 (.t 1), none, none⟩,
     ⟨.assign .asis (.t 0), (some 6), none⟩,
     ⟨.assign .asis (.t 2), (some 7), none⟩])
   (.seq (.region [⟨.move (.v 7), none, none⟩,
     ⟨.bin .lss (.t 0) (.c (.int .i64 0)), none, none⟩])
   (.cond (.t 1)
    (.draw [⟨.load .asis true 3 (.v 5), none, none⟩,
      ⟨.fieldAddr 0 (.v 2), none, none⟩,
      ⟨.load .asis false 1 (.t 1), none, none⟩,
      ⟨.move (.v 6), none, none⟩,
      ⟨.indexAddr 1 (.t 2) (.t 3), none, none⟩,
      ⟨.load .asis true 1 (.t 4), none, none⟩,
      ⟨.call 10 [.lend] .share [(.t 5)], none, none⟩,
      ⟨.call 58 [.lend, .asis] .own [(.t 0), (.t 6)], none, none⟩,
      ⟨.store false 3 (.v 5) (.t 7), none, none⟩] [(0, 6)] [0, 0, 0, 0, 0, 0, 2, 2, 0])
    (.draw [⟨.load .asis true 3 (.v 5), none, none⟩,
      ⟨.fieldAddr 0 (.v 2), none, none⟩,
      ⟨.load .asis false 1 (.t 1), none, none⟩,
      ⟨.move (.v 6), none, none⟩,
      ⟨.indexAddr 1 (.t 2) (.t 3), none, none⟩,
      ⟨.fieldAddr 0 (.t 4), none, none⟩,
      ⟨.load .asis false 1 (.t 5), none, none⟩,
      ⟨.move (.v 7), none, none⟩,
      ⟨.indexAddr 3 (.t 6) (.t 7), none, none⟩,
      ⟨.load .asis true 3 (.t 8), none, none⟩,
      ⟨.call 58 [.lend, .lend] .own [(.t 0), (.t 9)], none, none⟩,
      ⟨.store false 3 (.v 5) (.t 10), none, none⟩] [] [0, 0, 0, 0, 0, 0, 0, 0, 0, 0, 2, 0])))))
   (.region [⟨.bin .add (.v 10) (.c (.int .i64 1)), none, none⟩,
     ⟨.assign .asis (.t 0), (some 10), none⟩])))))))
  (.seq (.region [⟨.load .own true 3 (.v 5), none, none⟩,
    ⟨.store false 3 (.v 3) (.t 0), none, none⟩,
    ⟨.assign .asis (.c (.int .i64 0)), (some 4), none⟩])
  .ret)))))⟩

/-- credence/credenceref1.NatDivMod -/
def f56 : AFn := ⟨2, [0, 1, 4, 5, 6, 7, 8, 9, 10, 11], [.v 2, .v 3, .v 4],
  (.seq (.region [⟨.assign .asis (.c (.slice true 1 0 [])), (some 2), none⟩,
    ⟨.assign .asis (.c (.slice true 1 0 [])), (some 3), none⟩,
    ⟨.assign .asis (.c (.bool false)), (some 4), none⟩])
  (.seq (.region [⟨.move (.v 0), none, none⟩,
    ⟨.call 49 [.asis] .share [(.t 0)], none, none⟩,
    ⟨.move (.v 1), none, none⟩,
    ⟨.call 49 [.asis] .share [(.t 2)], none, none⟩,
    ⟨.assign .asis (.t 1), (some 5), none⟩,
    ⟨.assign .asis (.t 3), (some 6), none⟩])
  (.seq (.seq (.region [⟨.move (.v 6), none, none⟩,
    ⟨.len false (.t 0), none, none⟩,
    ⟨.bin .eql (.t 1) (.c (.int .i64 0)), none, none⟩])
  (.cond (.t 2)
   (.seq (.region [⟨.assign .asis (.c (.slice true 1 0 [])), (some 2), none⟩,
     ⟨.assign .asis (.c (.slice true 1 0 [])), (some 3), none⟩,
     ⟨.assign .asis (.c (.bool false)), (some 4), none⟩])
   .ret)
   .skip))
  (.seq (.region [⟨.move (.v 5), none, none⟩,
    ⟨.len false (.t 0), none, none⟩,
    ⟨.makeSlice .own [(.int .u32 0)] 4 (.t 1) (.t 1), none, none⟩,
    ⟨.assign .own (.t 2), (some 7), none⟩])
  (.seq (.region [⟨.assign .asis (.c (.slice true 1 0 [])), (some 8), none⟩])
  (.seq (.seq (.region [⟨.move (.v 5), none, none⟩,
    ⟨.len false (.t 0), none, none⟩,
    ⟨.bin .mul (.c (.int .i64 32)) (.t 1), none, none⟩,
    ⟨.bin .sub (.t 2) (.c (.int .i64 1)), none, none⟩,
    ⟨.assign .asis (.t 3), (some 9), none⟩])
  (.block 0 (.loop [5, 6, 7, 8, 9]
   (.seq (.seq (.region [⟨.move (.v 9), none, none⟩,
     ⟨.bin .geq (.t 0) (.c (.int .i64 0)), none, none⟩])
   (.cond (.t 1)
    .skip
    (.exit 0)))
   (.seq (.block 1 (.seq (.region [⟨.move (.v 8), none, none⟩,
     ⟨.move (.v 5), none, none⟩,
     ⟨.move (.v 9), none, none⟩,
     ⟨.bin .quo (.t 2) (.c (.int .i64 32)), none, none⟩,
     ⟨.indexAddr 1 (.t 1) (.t 3), none, none⟩,
     ⟨.load .asis false 1 (.t 4), none, none⟩,
     ⟨.move (.v 9), none, none⟩,
     ⟨.bin .rem (.t 6) (.c (.int .i64 32)), none, none⟩,
     ⟨.conv .u64 (.t 7), none, none⟩,
     ⟨.bin .shr (.t 5) (.t 8), none, none⟩,
     ⟨.bin .and (.t 9) (.c (.int .u32 1)), none, none⟩,
     ⟨.call 55 [.asis, .asis] .share [(.t 0), (.t 10)], none, none⟩,
     ⟨.assign .asis (.t 11), (some 8), none⟩])
   (.seq (.region [⟨.move (.v 8), none, none⟩,
     ⟨.move (.v 6), none, none⟩,
     ⟨.call 53 [.asis, .asis] .share [(.t 0), (.t 1)], none, none⟩,
     ⟨.bin .geq (.t 2) (.c (.int .i64 0)), none, none⟩])
   (.cond (.t 3)
    (.seq (.region [⟨.move (.v 8), none, none⟩,
      ⟨.move (.v 6), none, none⟩,
      ⟨.call 54 [.asis, .asis] .share [(.t 0), (.t 1)], none, none⟩,
      ⟨.move (.t 2), none, none⟩,
      ⟨.extract 0 (.t 3), none, none⟩,
      ⟨.extract 1 (.t 3), none, none⟩,
      ⟨.assign .asis (.t 4), (some 8), none⟩])
    (.region [⟨.move (.v 7), none, none⟩,
      ⟨.move (.v 9), none, none⟩,
      ⟨.bin .quo (.t 1) (.c (.int .i64 32)), none, none⟩,
      ⟨.move (.v 7), none, none⟩,
      ⟨.move (.v 9), none, none⟩,
      ⟨.bin .quo (.t 4) (.c (.int .i64 32)), none, none⟩,
      ⟨.indexAddr 1 (.t 3) (.t 5), none, none⟩,
      ⟨.load .asis false 1 (.t 6), none, none⟩,
      ⟨.move (.v 9), none, none⟩,
      ⟨.bin .rem (.t 8) (.c (.int .i64 32)), none, none⟩,
      ⟨.conv .u64 (.t 9), none, none⟩,
      ⟨.bin .shl (.c (.int .u32 1)) (.t 10), none, none⟩,
      ⟨.bin .or (.t 7) (.t 11), none, none⟩,
      ⟨.indexAddr 1 (.t 0) (.t 2), none, none⟩,
      ⟨.store true 1 (.t 13) (.t 12), none, none⟩]))
    .skip))))
   (.region [⟨.move (.v 9), none, none⟩,
     ⟨.bin .sub (.t 0) (.c (.int .i64 1)), none, none⟩,
     ⟨.assign .asis (.t 1), (some 9), none⟩]))))))
  (.seq (.region [⟨.move (.v 7), none, none⟩,
    ⟨.call 49 [.lend] .own [(.t 0)], none, none⟩,
    ⟨.move (.v 8), none, none⟩,
    ⟨.call 49 [.asis] .own [(.t 2)], none, none⟩,
    ⟨.assign .own (.t 1), (some 2), none⟩,
    ⟨.assign .own (.t 3), (some 3), none⟩,
    ⟨.assign .asis (.c (.bool true)), (some 4), none⟩])
  .ret)))))))⟩

/-- credence/credenceref1.double -/
def f55 : AFn := ⟨2, [0, 1, 4, 5, 6], [.v 2],
  (.seq (.region [⟨.assign .asis (.c (.slice true 1 0 [])), (some 2), none⟩])
  (.seq (.region [⟨.assign .own (.c (.slice true 1 0 [])), (some 3), none⟩])
  (.seq (.seq (.region [⟨.assign .asis (.c (.int .i64 0)), (some 4), none⟩])
  (.block 0 (.loop [0, 1, 3, 4]
   (.seq (.seq (.region [⟨.move (.v 4), none, none⟩,
     ⟨.move (.v 0), none, none⟩,
     ⟨.len false (.t 1), none, none⟩,
     ⟨.bin .lss (.t 0) (.t 2), none, none⟩])
   (.cond (.t 3)
    .skip
    (.exit 0)))
   (.seq (.block 1 (.seq (.region [⟨.move (.v 3), none, none⟩,
     ⟨.move (.v 0), none, none⟩,
     ⟨.move (.v 4), none, none⟩,
     ⟨.indexAddr 1 (.t 1) (.t 2), none, none⟩,
     ⟨.load .asis false 1 (.t 3), none, none⟩,
     ⟨.bin .shl (.t 4) (.c (.int .u64 1)), none, none⟩,
     ⟨.move (.v 1), none, none⟩,
     ⟨.bin .or (.t 5) (.t 6), none, none⟩,
     ⟨.buildSlice .own [(.int .u32 0)] 1 [(0, (.t 7))], none, none⟩,
     ⟨.append true 1 4 true (.t 0) (.t 8), none, none⟩,
     ⟨.assign .own (.t 9), (some 3), none⟩])
   (.region [⟨.move (.v 0), none, none⟩,
     ⟨.move (.v 4), none, none⟩,
     ⟨.indexAddr 1 (.t 0) (.t 1), none, none⟩,
     ⟨.load .asis false 1 (.t 2), none, none⟩,
     ⟨.bin .shr (.t 3) (.c (.int .u64 31)), none, none⟩,
     ⟨.assign .own (.t 4), (some 1), none⟩])))
   (.region [⟨.move (.v 4), none, none⟩,
     ⟨.bin .add (.t 0) (.c (.int .i64 1)), none, none⟩,
     ⟨.assign .asis (.t 1), (some 4), none⟩]))))))
  (.seq (.region [⟨.move (.v 3), none, none⟩,
    ⟨.move (.v 1), none, none⟩,
    ⟨.buildSlice .own [(.int .u32 0)] 1 [(0, (.t 1))], none, none⟩,
    ⟨.append true 1 4 true (.t 0) (.t 2), none, none⟩,
    ⟨.call 49 [.lend] .own [(.t 3)], none, none⟩,
    ⟨.assign .own (.t 4), (some 2), none⟩])
  .ret))))⟩

/-- credence/credenceref1.NatSub -/
def f54 : AFn := ⟨2, [0, 1, 4, 5, 6, 7, 8, 9, 10], [.v 2, .v 3],
  (.seq (.region [⟨.assign .asis (.c (.slice true 1 0 [])), (some 2), none⟩,
    ⟨.assign .asis (.c (.bool false)), (some 3), none⟩])
  (.seq (.seq (.region [⟨.move (.v 0), none, none⟩,
    ⟨.move (.v 1), none, none⟩,
    ⟨.call 53 [.asis, .asis] .share [(.t 0), (.t 1)], none, none⟩,
    ⟨.bin .lss (.t 2) (.c (.int .i64 0)), none, none⟩])
  (.cond (.t 3)
   (.seq (.region [⟨.assign .asis (.c (.slice true 1 0 [])), (some 2), none⟩,
     ⟨.assign .asis (.c (.bool false)), (some 3), none⟩])
   .ret)
   .skip))
  (.seq (.region [⟨.move (.v 0), none, none⟩,
    ⟨.call 49 [.asis] .own [(.t 0)], none, none⟩,
    ⟨.move (.v 1), none, none⟩,
    ⟨.call 49 [.asis] .share [(.t 2)], none, none⟩,
    ⟨.assign .own (.t 1), (some 4), none⟩,
    ⟨.assign .asis (.t 3), (some 5), none⟩])
  (.seq (.region [⟨.assign .asis (.c (.int .u64 0)), (some 6), none⟩])
  (.seq (.seq (.region [⟨.assign .asis (.c (.int .i64 0)), (some 7), none⟩])
  (.block 0 (.loop [4, 5, 6, 7]
   (.seq (.seq (.region [⟨.move (.v 7), none, none⟩,
     ⟨.move (.v 4), none, none⟩,
     ⟨.len false (.t 1), none, none⟩,
     ⟨.bin .lss (.t 0) (.t 2), none, none⟩])
   (.cond (.t 3)
    .skip
    (.exit 0)))
   (.seq (.block 1 (.seq (.region [⟨.move (.v 6), none, none⟩,
     ⟨.assign .asis (.t 0), (some 8), none⟩])
   (.seq (.seq (.region [⟨.move (.v 7), none, none⟩,
     ⟨.move (.v 5), none, none⟩,
     ⟨.len false (.t 1), none, none⟩,
     ⟨.bin .lss (.t 0) (.t 2), none, none⟩])
   (.cond (.t 3)
    (.region [⟨.move (.v 8), none, none⟩,
      ⟨.move (.v 5), none, none⟩,
      ⟨.move (.v 7), none, none⟩,
      ⟨.indexAddr 1 (.t 1) (.t 2), none, none⟩,
      ⟨.load .asis false 1 (.t 3), none, none⟩,
      ⟨.conv .u64 (.t 4), none, none⟩,
      ⟨.bin .add (.t 0) (.t 5), none, none⟩,
      ⟨.assign .asis (.t 6), (some 8), none⟩])
    .skip))
   (.seq (.region [⟨.assign .asis (.c (.int .u64 0)), (some 6), none⟩])
   (.seq (.seq (.region [⟨.move (.v 4), none, none⟩,
     ⟨.move (.v 7), none, none⟩,
     ⟨.indexAddr 1 (.t 0) (.t 1), none, none⟩,
     ⟨.load .asis false 1 (.t 2), none, none⟩,
     ⟨.conv .u64 (.t 3), none, none⟩,
     ⟨.move (.v 8), none, none⟩,
     ⟨.bin .lss (.t 4) (.t 5), none, none⟩])
   (.cond (.t 6)
    (.region [⟨.assign .asis (.c (.int .u64 1)), (some 6), none⟩])
    .skip))
   (.region [⟨.move (.v 4), none, none⟩,
     ⟨.move (.v 7), none, none⟩,
     ⟨.move (.v 4), none, none⟩,
     ⟨.move (.v 7), none, none⟩,
     ⟨.indexAddr 1 (.t 2) (.t 3), none, none⟩,
     ⟨.load .asis false 1 (.t 4), none, none⟩,
     ⟨.conv .u64 (.t 5), none, none⟩,
     ⟨.move (.v 6), none, none⟩,
     ⟨.bin .shl (.t 7) (.c (.int .u64 32)), none, none⟩,
     ⟨.bin .add (.t 6) (.t 8), none, none⟩,
     ⟨.move (.v 8), none, none⟩,
     ⟨.bin .sub (.t 9) (.t 10), none, none⟩,
     ⟨.conv .u32 (.t 11), none, none⟩,
     ⟨.indexAddr 1 (.t 0) (.t 1), none, none⟩,
     ⟨.store true 1 (.t 13) (.t 12), none, none⟩]))))))
   (.region [⟨.move (.v 7), none, none⟩,
     ⟨.bin .add (.t 0) (.c (.int .i64 1)), none, none⟩,
     ⟨.assign .asis (.t 1), (some 7), none⟩]))))))
  (.seq (.region [⟨.move (.v 4), none, none⟩,
    ⟨.call 49 [.lend] .own [(.t 0)], none, none⟩,
    ⟨.assign .own (.t 1), (some 2), none⟩,
    ⟨.assign .asis (.c (.bool true)), (some 3), none⟩])
  .ret))))))⟩

/-- credence/credenceref1.NatCmp -/
def f53 : AFn := ⟨2, [0, 1, 4, 5, 6, 7], [.v 2],
  (.seq (.region [⟨.assign .asis (.c (.int .i64 0)), (some 2), none⟩])
  (.seq (.region [⟨.move (.v 0), none, none⟩,
    ⟨.call 49 [.asis] .share [(.t 0)], none, none⟩,
    ⟨.move (.v 1), none, none⟩,
    ⟨.call 49 [.asis] .share [(.t 2)], none, none⟩,
    ⟨.assign .asis (.t 1), (some 3), none⟩,
    ⟨.assign .asis (.t 3), (some 4), none⟩])
  (.seq (.seq (.region [⟨.move (.v 3), none, none⟩,
    ⟨.len false (.t 0), none, none⟩,
    ⟨.move (.v 4), none, none⟩,
    ⟨.len false (.t 2), none, none⟩,
    ⟨.bin .neq (.t 1) (.t 3), none, none⟩])
  (.cond (.t 4)
   (.seq (.seq (.region [⟨.move (.v 3), none, none⟩,
     ⟨.len false (.t 0), none, none⟩,
     ⟨.move (.v 4), none, none⟩,
     ⟨.len false (.t 2), none, none⟩,
     ⟨.bin .lss (.t 1) (.t 3), none, none⟩])
   (.cond (.t 4)
    (.seq (.region [⟨.assign .asis (.c (.int .i64 (-1))), (some 2), none⟩])
    .ret)
    .skip))
   (.seq (.region [⟨.assign .asis (.c (.int .i64 1)), (some 2), none⟩])
   .ret))
   .skip))
  (.seq (.seq (.region [⟨.move (.v 3), none, none⟩,
    ⟨.len false (.t 0), none, none⟩,
    ⟨.bin .sub (.t 1) (.c (.int .i64 1)), none, none⟩,
    ⟨.assign .asis (.t 2), (some 5), none⟩])
  (.block 0 (.loop [3, 4, 5]
   (.seq (.seq (.region [⟨.move (.v 5), none, none⟩,
     ⟨.bin .geq (.t 0) (.c (.int .i64 0)), none, none⟩])
   (.cond (.t 1)
    .skip
    (.exit 0)))
   (.seq (.block 1 (.seq (.seq (.draw [⟨.move (.v 3), none, none⟩,
     ⟨.move (.v 5), none, none⟩,
     ⟨.indexAddr 1 (.t 0) (.t 1), none, none⟩,
     ⟨.load .asis false 1 (.t 2), none, none⟩,
     ⟨.move (.v 4), none, none⟩,
     ⟨.move (.v 5), none, none⟩,
     ⟨.indexAddr 1 (.t 4) (.t 5), none, none⟩,
     ⟨.load .asis false 1 (.t 6), none, none⟩,
     ⟨.bin .lss (.t 3) (.t 7), none, none⟩] [] [0, 0, 0, 0, 0, 0, 0, 0, 0])
   (.cond (.t 8)
    (.seq (.region [⟨.assign .asis (.c (.int .i64 (-1))), (some 2), none⟩])
    .ret)
    .skip))
   (.seq (.draw [⟨.move (.v 3), none, none⟩,
     ⟨.move (.v 5), none, none⟩,
     ⟨.indexAddr 1 (.t 0) (.t 1), none, none⟩,
     ⟨.load .asis false 1 (.t 2), none, none⟩,
     ⟨.move (.v 4), none, none⟩,
     ⟨.move (.v 5), none, none⟩,
     ⟨.indexAddr 1 (.t 4) (.t 5), none, none⟩,
     ⟨.load .asis false 1 (.t 6), none, none⟩,
     ⟨.bin .gtr (.t 3) (.t 7), none, none⟩] [] [0, 0, 0, 0, 0, 0, 0, 0, 0])
   (.cond (.t 8)
    (.seq (.region [⟨.assign .asis (.c (.int .i64 1)), (some 2), none⟩])
    .ret)
    .skip))))
   (.region [⟨.move (.v 5), none, none⟩,
     ⟨.bin .sub (.t 0) (.c (.int .i64 1)), none, none⟩,
     ⟨.assign .asis (.t 1), (some 5), none⟩]))))))
  (.seq (.region [⟨.assign .asis (.c (.int .i64 0)), (some 2), none⟩])
  .ret)))))⟩

/-- credence/credenceref1.half -/
def f52 : AFn := ⟨1, [0, 2, 3, 4, 5], [.v 1],
  (.seq (.region [⟨.assign .asis (.c (.slice true 1 0 [])), (some 1), none⟩])
  (.seq (.region [⟨.assign .own (.c (.slice true 1 0 [])), (some 2), none⟩])
  (.seq (.seq (.region [⟨.assign .asis (.c (.int .i64 0)), (some 3), none⟩])
  (.block 0 (.loop [0, 2, 3]
   (.seq (.seq (.region [⟨.move (.v 3), none, none⟩,
     ⟨.move (.v 0), none, none⟩,
     ⟨.len false (.t 1), none, none⟩,
     ⟨.bin .lss (.t 0) (.t 2), none, none⟩])
   (.cond (.t 3)
    .skip
    (.exit 0)))
   (.seq (.block 1 (.seq (.region [⟨.move (.v 0), none, none⟩,
     ⟨.move (.v 3), none, none⟩,
     ⟨.indexAddr 1 (.t 0) (.t 1), none, none⟩,
     ⟨.load .asis false 1 (.t 2), none, none⟩,
     ⟨.bin .shr (.t 3) (.c (.int .u64 1)), none, none⟩,
     ⟨.assign .own (.t 4), (some 4), none⟩])
   (.seq (.seq (.region [⟨.move (.v 3), none, none⟩,
     ⟨.bin .add (.t 0) (.c (.int .i64 1)), none, none⟩,
     ⟨.move (.v 0), none, none⟩,
     ⟨.len false (.t 2), none, none⟩,
     ⟨.bin .lss (.t 1) (.t 3), none, none⟩])
   (.cond (.t 4)
    (.region [⟨.move (.v 4), none, none⟩,
      ⟨.move (.v 0), none, none⟩,
      ⟨.move (.v 3), none, none⟩,
      ⟨.bin .add (.t 2) (.c (.int .i64 1)), none, none⟩,
      ⟨.indexAddr 1 (.t 1) (.t 3), none, none⟩,
      ⟨.load .asis false 1 (.t 4), none, none⟩,
      ⟨.bin .shl (.t 5) (.c (.int .u64 31)), none, none⟩,
      ⟨.bin .or (.t 0) (.t 6), none, none⟩,
      ⟨.assign .own (.t 7), (some 4), none⟩])
    .skip))
   (.region [⟨.move (.v 2), none, none⟩,
     ⟨.move (.v 4), none, none⟩,
     ⟨.buildSlice .own [(.int .u32 0)] 1 [(0, (.t 1))], none, none⟩,
     ⟨.append true 1 4 true (.t 0) (.t 2), none, none⟩,
     ⟨.assign .own (.t 3), (some 2), none⟩]))))
   (.region [⟨.move (.v 3), none, none⟩,
     ⟨.bin .add (.t 0) (.c (.int .i64 1)), none, none⟩,
     ⟨.assign .asis (.t 1), (some 3), none⟩]))))))
  (.seq (.region [⟨.move (.v 2), none, none⟩,
    ⟨.call 49 [.lend] .own [(.t 0)], none, none⟩,
    ⟨.assign .own (.t 1), (some 1), none⟩])
  .ret))))⟩

/-- credence/credenceref1.NatGCD -/
def f51 : AFn := ⟨2, [0, 1, 4, 5, 6, 7, 8], [.v 2],
  (.seq (.region [⟨.assign .asis (.c (.slice true 1 0 [])), (some 2), none⟩])
  (.seq (.region [⟨.move (.v 0), none, none⟩,
    ⟨.call 49 [.asis] .own [(.t 0)], none, none⟩,
    ⟨.move (.v 1), none, none⟩,
    ⟨.call 49 [.asis] .own [(.t 2)], none, none⟩,
    ⟨.assign .own (.t 1), (some 3), none⟩,
    ⟨.assign .own (.t 3), (some 4), none⟩])
  (.seq (.seq (.region [⟨.move (.v 3), none, none⟩,
    ⟨.len false (.t 0), none, none⟩,
    ⟨.bin .eql (.t 1) (.c (.int .i64 0)), none, none⟩])
  (.cond (.t 2)
   (.seq (.region [⟨.move (.v 4), none, none⟩,
     ⟨.assign .own (.t 0), (some 2), none⟩])
   .ret)
   .skip))
  (.seq (.seq (.region [⟨.move (.v 4), none, none⟩,
    ⟨.len false (.t 0), none, none⟩,
    ⟨.bin .eql (.t 1) (.c (.int .i64 0)), none, none⟩])
  (.cond (.t 2)
   (.seq (.region [⟨.move (.v 3), none, none⟩,
     ⟨.assign .own (.t 0), (some 2), none⟩])
   .ret)
   .skip))
  (.seq (.region [⟨.assign .asis (.c (.int .i64 0)), (some 5), none⟩])
  (.seq (.block 0 (.loop [3, 4, 5]
   (.seq (.seq (.region [⟨.move (.v 3), none, none⟩,
     ⟨.indexAddr 1 (.t 0) (.c (.int .i64 0)), none, none⟩,
     ⟨.load .asis false 1 (.t 1), none, none⟩,
     ⟨.bin .and (.t 2) (.c (.int .u32 1)), none, none⟩,
     ⟨.bin .eql (.t 3) (.c (.int .u32 0)), none, none⟩,
     ⟨.move (.t 4), none, none⟩,
     ⟨.move (.v 4), none, (some (5, true))⟩,
     ⟨.indexAddr 1 (.t 6) (.c (.int .i64 0)), none, (some (5, true))⟩,
     ⟨.load .asis false 1 (.t 7), none, (some (5, true))⟩,
     ⟨.bin .and (.t 8) (.c (.int .u32 1)), none, (some (5, true))⟩,
     ⟨.bin .eql (.t 9) (.c (.int .u32 0)), none, (some (5, true))⟩,
     ⟨.pick (.t 5) (.t 10) (.c (.bool false)), none, none⟩])
   (.cond (.t 11)
    .skip
    (.exit 0)))
   (.block 1 (.seq (.region [⟨.move (.v 3), none, none⟩,
     ⟨.call 52 [.lend] .own [(.t 0)], none, none⟩,
     ⟨.move (.v 4), none, none⟩,
     ⟨.call 52 [.lend] .own [(.t 2)], none, none⟩,
     ⟨.assign .own (.t 1), (some 3), none⟩,
     ⟨.assign .own (.t 3), (some 4), none⟩])
   (.region [⟨.move (.v 5), none, none⟩,
     ⟨.bin .add (.t 0) (.c (.int .i64 1)), none, none⟩,
     ⟨.assign .asis (.t 1), (some 5), none⟩]))))))
  (.seq (.block 2 (.loop [3, 4, 5]
   (.seq (.seq (.region [⟨.move (.v 4), none, none⟩,
     ⟨.len false (.t 0), none, none⟩,
     ⟨.bin .gtr (.t 1) (.c (.int .i64 0)), none, none⟩])
   (.cond (.t 2)
    .skip
    (.exit 2)))
   (.block 3 (.seq (.block 4 (.loop [3, 4, 5]
    (.seq (.seq (.region [⟨.move (.v 3), none, none⟩,
      ⟨.indexAddr 1 (.t 0) (.c (.int .i64 0)), none, none⟩,
      ⟨.load .asis false 1 (.t 1), none, none⟩,
      ⟨.bin .and (.t 2) (.c (.int .u32 1)), none, none⟩,
      ⟨.bin .eql (.t 3) (.c (.int .u32 0)), none, none⟩])
    (.cond (.t 4)
     .skip
     (.exit 4)))
    (.block 5 (.region [⟨.move (.v 3), none, none⟩,
      ⟨.call 52 [.lend] .own [(.t 0)], none, none⟩,
      ⟨.assign .own (.t 1), (some 3), none⟩])))))
   (.seq (.block 6 (.loop [3, 4, 5]
    (.seq (.seq (.region [⟨.move (.v 4), none, none⟩,
      ⟨.indexAddr 1 (.t 0) (.c (.int .i64 0)), none, none⟩,
      ⟨.load .asis false 1 (.t 1), none, none⟩,
      ⟨.bin .and (.t 2) (.c (.int .u32 1)), none, none⟩,
      ⟨.bin .eql (.t 3) (.c (.int .u32 0)), none, none⟩])
    (.cond (.t 4)
     .skip
     (.exit 6)))
    (.block 7 (.region [⟨.move (.v 4), none, none⟩,
      ⟨.call 52 [.lend] .own [(.t 0)], none, none⟩,
      ⟨.assign .own (.t 1), (some 4), none⟩])))))
   (.seq (.seq (.region [⟨.move (.v 3), none, none⟩,
     ⟨.move (.v 4), none, none⟩,
     ⟨.call 53 [.lend, .lend] .share [(.t 0), (.t 1)], none, none⟩,
     ⟨.bin .gtr (.t 2) (.c (.int .i64 0)), none, none⟩])
   (.cond (.t 3)
    (.region [⟨.move (.v 4), none, none⟩,
      ⟨.move (.v 3), none, none⟩,
      ⟨.assign .own (.t 0), (some 3), none⟩,
      ⟨.assign .own (.t 1), (some 4), none⟩])
    .skip))
   (.region [⟨.move (.v 4), none, none⟩,
     ⟨.move (.v 3), none, none⟩,
     ⟨.call 54 [.lend, .lend] .own [(.t 0), (.t 1)], none, none⟩,
     ⟨.move (.t 2), none, none⟩,
     ⟨.extract 0 (.t 3), none, none⟩,
     ⟨.extract 1 (.t 3), none, none⟩,
     ⟨.assign .own (.t 4), (some 4), none⟩]))))))))
  (.seq (.seq (.region [⟨.assign .asis (.c (.int .i64 0)), (some 6), none⟩])
  (.block 8 (.loop [3, 5, 6]
   (.seq (.seq (.region [⟨.move (.v 6), none, none⟩,
     ⟨.move (.v 5), none, none⟩,
     ⟨.bin .lss (.t 0) (.t 1), none, none⟩])
   (.cond (.t 2)
    .skip
    (.exit 8)))
   (.seq (.block 9 (.region [⟨.move (.v 3), none, none⟩,
     ⟨.call 55 [.lend, .asis] .own [(.t 0), (.c (.int .u32 0))], none, none⟩,
     ⟨.assign .own (.t 1), (some 3), none⟩]))
   (.region [⟨.move (.v 6), none, none⟩,
     ⟨.bin .add (.t 0) (.c (.int .i64 1)), none, none⟩,
     ⟨.assign .asis (.t 1), (some 6), none⟩]))))))
  (.seq (.region [⟨.move (.v 3), none, none⟩,
    ⟨.assign .own (.t 0), (some 2), none⟩])
  .ret)))))))))⟩

/-- credence/credenceref1.frac -/
def f50 : AFn := ⟨3, [0, 1, 2, 6, 7, 8, 10, 11], [.cell 3 true 3],
  (.seq (.region [⟨.alloc [(.bool false), (.slice true 1 0 []), (.slice true 1 0 [])], (some 3), none⟩])
  (.seq (.region [⟨.move (.v 1), none, none⟩,
    ⟨.move (.v 2), none, none⟩,
    ⟨.call 51 [.asis, .asis] .share [(.t 0), (.t 1)], none, none⟩,
    ⟨.assign .asis (.t 2), (some 4), none⟩])
  (.seq (.region [⟨.move (.v 1), none, none⟩,
    ⟨.move (.v 4), none, none⟩,
    ⟨.call 56 [.asis, .asis] .own [(.t 0), (.t 1)], none, none⟩,
    ⟨.move (.t 2), none, none⟩,
    ⟨.extract 0 (.t 3), none, none⟩,
    ⟨.extract 1 (.t 3), none, none⟩,
    ⟨.extract 2 (.t 3), none, none⟩,
    ⟨.assign .own (.t 4), (some 5), none⟩,
    ⟨.assign .share (.t 5), none, none⟩,
    ⟨.assign .asis (.t 6), (some 6), none⟩])
  (.seq (.region [⟨.move (.v 2), none, none⟩,
    ⟨.move (.v 4), none, none⟩,
    ⟨.call 56 [.asis, .asis] .own [(.t 0), (.t 1)], none, none⟩,
    ⟨.move (.t 2), none, none⟩,
    ⟨.extract 0 (.t 3), none, none⟩,
    ⟨.extract 1 (.t 3), none, none⟩,
    ⟨.extract 2 (.t 3), none, none⟩,
    ⟨.assign .own (.t 4), (some 7), none⟩,
    ⟨.assign .share (.t 5), none, none⟩,
    ⟨.assign .asis (.t 6), none, none⟩])
  (.seq (.seq (.region [⟨.move (.v 6), none, none⟩,
    ⟨.un .not (.t 0), none, none⟩,
    ⟨.move (.t 1), none, none⟩,
    ⟨.move (.v 5), none, (some (2, false))⟩,
    ⟨.len false (.t 3), none, (some (2, false))⟩,
    ⟨.bin .eql (.t 4) (.c (.int .i64 0)), none, (some (2, false))⟩,
    ⟨.pick (.t 2) (.c (.bool true)) (.t 5), none, none⟩,
    ⟨.move (.t 6), none, none⟩,
    ⟨.move (.v 7), none, (some (7, false))⟩,
    ⟨.len false (.t 8), none, (some (7, false))⟩,
    ⟨.bin .eql (.t 9) (.c (.int .i64 0)), none, (some (7, false))⟩,
    ⟨.pick (.t 7) (.c (.bool true)) (.t 10), none, none⟩])
  (.cond (.t 11)
   (.seq (.region [⟨.call 48 [.asis] .own [(.c (.int .u64 1))], none, none⟩,
     ⟨.build [(.bool false), (.slice true 1 0 []), (.slice true 1 0 [])] [(2, 1, (.t 0))], none, none⟩,
     ⟨.store false 3 (.v 3) (.t 1), none, none⟩])
   .ret)
   .skip))
  (.seq (.region [⟨.move (.v 0), none, none⟩,
    ⟨.move (.v 5), none, none⟩,
    ⟨.move (.v 7), none, none⟩,
    ⟨.build [(.bool false), (.slice true 1 0 []), (.slice true 1 0 [])] [(0, 1, (.t 0)), (1, 1, (.t 1)), (2, 1, (.t 2))], none, none⟩,
    ⟨.store false 3 (.v 3) (.t 3), none, none⟩])
  .ret))))))⟩

/-- credence/credenceref1.NatNorm -/
def f49 : AFn := ⟨1, [0, 2, 3], [.v 1],
  (.seq (.region [⟨.assign .asis (.c (.slice true 1 0 [])), (some 1), none⟩])
  (.seq (.region [⟨.move (.v 0), none, none⟩,
    ⟨.len false (.t 0), none, none⟩,
    ⟨.assign .asis (.t 1), (some 2), none⟩])
  (.seq (.block 0 (.loop [0, 2]
   (.seq (.seq (.region [⟨.move (.v 2), none, none⟩,
     ⟨.bin .gtr (.t 0) (.c (.int .i64 0)), none, none⟩,
     ⟨.move (.t 1), none, none⟩,
     ⟨.move (.v 0), none, (some (2, true))⟩,
     ⟨.move (.v 2), none, (some (2, true))⟩,
     ⟨.bin .sub (.t 4) (.c (.int .i64 1)), none, (some (2, true))⟩,
     ⟨.indexAddr 1 (.t 3) (.t 5), none, (some (2, true))⟩,
     ⟨.load .asis false 1 (.t 6), none, (some (2, true))⟩,
     ⟨.bin .eql (.t 7) (.c (.int .u32 0)), none, (some (2, true))⟩,
     ⟨.pick (.t 2) (.t 8) (.c (.bool false)), none, none⟩])
   (.cond (.t 9)
    .skip
    (.exit 0)))
   (.block 1 (.region [⟨.move (.v 2), none, none⟩,
     ⟨.bin .sub (.t 0) (.c (.int .i64 1)), none, none⟩,
     ⟨.assign .asis (.t 1), (some 2), none⟩])))))
  (.seq (.region [⟨.buildSlice .own [(.int .u32 0)] 0 [], none, none⟩,
    ⟨.move (.v 0), none, none⟩,
    ⟨.move (.v 2), none, none⟩,
    ⟨.slice 1 (.t 1) none (some (.t 2)), none, none⟩,
    ⟨.append true 1 4 false (.t 0) (.t 3), none, none⟩,
    ⟨.assign .own (.t 4), (some 1), none⟩])
  .ret))))⟩

/-- credence/credenceref1.NatOf -/
def f48 : AFn := ⟨1, [0, 2], [.v 1],
  (.seq (.region [⟨.assign .asis (.c (.slice true 1 0 [])), (some 1), none⟩])
  (.seq (.region [⟨.move (.v 0), none, none⟩,
    ⟨.conv .u32 (.t 0), none, none⟩,
    ⟨.move (.v 0), none, none⟩,
    ⟨.bin .shr (.t 2) (.c (.int .u64 32)), none, none⟩,
    ⟨.conv .u32 (.t 3), none, none⟩,
    ⟨.buildSlice .share [(.int .u32 0)] 2 [(0, (.t 1)), (1, (.t 4))], none, none⟩,
    ⟨.call 49 [.asis] .own [(.t 5)], none, none⟩,
    ⟨.assign .own (.t 6), (some 1), none⟩])
  .ret))⟩

/-- credence/credenceref1.size -/
def f47 : AFn := ⟨1, [0, 2], [.v 1],
  (.seq (.region [⟨.assign .asis (.c (.slice true 1 0 [])), (some 1), none⟩])
  (.seq (.seq (.region [⟨.move (.v 0), none, none⟩,
    ⟨.bin .lss (.t 0) (.c (.int .i64 0)), none, none⟩])
  (.cond (.t 1)
   (.seq (.region [⟨.move (.v 0), none, none⟩,
     ⟨.bin .add (.t 0) (.c (.int .i64 1)), none, none⟩,
     ⟨.un .neg (.t 1), none, none⟩,
     ⟨.conv .u64 (.t 2), none, none⟩,
     ⟨.bin .add (.t 3) (.c (.int .u64 1)), none, none⟩,
     ⟨.call 48 [.asis] .own [(.t 4)], none, none⟩,
     ⟨.assign .own (.t 5), (some 1), none⟩])
   .ret)
   .skip))
  (.seq (.region [⟨.move (.v 0), none, none⟩,
    ⟨.conv .u64 (.t 0), none, none⟩,
    ⟨.call 48 [.asis] .own [(.t 1)], none, none⟩,
    ⟨.assign .own (.t 2), (some 1), none⟩])
  .ret)))⟩

/-- credence/credenceref1.FracNew -/
def f46 : AFn := ⟨2, [0, 1, 4, 5], [.cell 2 true 3, .v 3],
  (.seq (.region [⟨.alloc [(.bool false), (.slice true 1 0 []), (.slice true 1 0 [])], (some 2), none⟩,
    ⟨.assign .asis (.c (.int .i64 0)), (some 3), none⟩])
  (.seq (.seq (.region [⟨.move (.v 1), none, none⟩,
    ⟨.bin .eql (.t 0) (.c (.int .i64 0)), none, none⟩])
  (.cond (.t 1)
   (.seq (.region [⟨.build [(.bool false), (.slice true 1 0 []), (.slice true 1 0 [])] [], none, none⟩,
     ⟨.store false 3 (.v 2) (.t 0), none, none⟩,
     ⟨.assign .asis (.c (.int .i64 20)), (some 3), none⟩])
   .ret)
   .skip))
  (.seq (.region [⟨.move (.v 0), none, none⟩,
    ⟨.bin .lss (.t 0) (.c (.int .i64 0)), none, none⟩,
    ⟨.move (.v 1), none, none⟩,
    ⟨.bin .lss (.t 2) (.c (.int .i64 0)), none, none⟩,
    ⟨.eqb true (.t 1) (.t 3), none, none⟩,
    ⟨.move (.v 0), none, none⟩,
    ⟨.call 47 [.asis] .share [(.t 5)], none, none⟩,
    ⟨.move (.v 1), none, none⟩,
    ⟨.call 47 [.asis] .share [(.t 7)], none, none⟩,
    ⟨.call 50 [.asis, .asis, .asis] .own [(.t 4), (.t 6), (.t 8)], none, none⟩,
    ⟨.store false 3 (.v 2) (.t 9), none, none⟩,
    ⟨.assign .asis (.c (.int .i64 0)), (some 3), none⟩])
  .ret)))⟩

/-- credence/credencebase.Prob -/
def f45 : AFn := ⟨1, [0, 2, 3, 4, 5], [.cell 1 true 3],
  (.seq (.region [⟨.alloc [(.bool false), (.slice true 1 0 []), (.slice true 1 0 [])], (some 1), none⟩])
  (.seq (.region [⟨.buildSlice .share [(.int .i64 0)] 8 [(0, (.c (.int .i64 1))), (1, (.c (.int .i64 1))), (2, (.c (.int .i64 2))), (3, (.c (.int .i64 1))), (4, (.c (.int .i64 1))), (5, (.c (.int .i64 0))), (6, (.c (.int .i64 3))), (7, (.c (.int .i64 1)))], none, none⟩,
    ⟨.move (.v 0), none, none⟩,
    ⟨.bin .and (.t 1) (.c (.int .i64 7)), none, none⟩,
    ⟨.indexAddr 1 (.t 0) (.t 2), none, none⟩,
    ⟨.load .asis false 1 (.t 3), none, none⟩,
    ⟨.assign .asis (.t 4), (some 2), none⟩])
  (.seq (.region [⟨.buildSlice .share [(.int .i64 0)] 8 [(0, (.c (.int .i64 2))), (1, (.c (.int .i64 3))), (2, (.c (.int .i64 3))), (3, (.c (.int .i64 4))), (4, (.c (.int .i64 1))), (5, (.c (.int .i64 1))), (6, (.c (.int .i64 5))), (7, (.c (.int .i64 7)))], none, none⟩,
    ⟨.move (.v 0), none, none⟩,
    ⟨.bin .and (.t 1) (.c (.int .i64 7)), none, none⟩,
    ⟨.indexAddr 1 (.t 0) (.t 2), none, none⟩,
    ⟨.load .asis false 1 (.t 3), none, none⟩,
    ⟨.assign .asis (.t 4), (some 3), none⟩])
  (.seq (.region [⟨.move (.v 2), none, none⟩,
    ⟨.move (.v 3), none, none⟩,
    ⟨.call 46 [.asis, .asis] .own [(.t 0), (.t 1)], none, none⟩,
    ⟨.move (.t 2), none, none⟩,
    ⟨.extract 0 (.t 3), none, none⟩,
    ⟨.extract 1 (.t 3), none, none⟩,
    ⟨.alloc [(.bool false), (.slice true 1 0 []), (.slice true 1 0 [])], (some 4), none⟩,
    ⟨.store false 3 (.v 4) (.t 4), none, none⟩,
    ⟨.assign .asis (.t 5), none, none⟩])
  (.seq (.region [⟨.load .own true 3 (.v 4), none, none⟩,
    ⟨.store false 3 (.v 1) (.t 0), none, none⟩])
  .ret)))))⟩

/-- credence/credencelaw11.known -/
def f44 : AFn := ⟨0, [0, 1, 2, 3, 4, 5], [.v 0],
  (.seq (.region [⟨.assign .asis (.c (.bool false)), (some 0), none⟩])
  (.seq (.region [⟨.call 45 [.asis] .own [(.c (.int .i64 1))], none, none⟩,
    ⟨.call 45 [.asis] .own [(.c (.int .i64 1))], none, none⟩,
    ⟨.buildSlice .own [(.bool false), (.slice true 1 0 []), (.slice true 1 0 [])] 2 [(0, (.t 0)), (3, (.t 1))], none, none⟩,
    ⟨.build [(.slice true 3 0 [])] [(0, 1, (.t 2))], none, none⟩,
    ⟨.call 45 [.asis] .own [(.c (.int .i64 0))], none, none⟩,
    ⟨.buildSlice .own [(.bool false), (.slice true 1 0 []), (.slice true 1 0 [])] 1 [(0, (.t 4))], none, none⟩,
    ⟨.build [(.slice true 3 0 [])] [(0, 1, (.t 5))], none, none⟩,
    ⟨.buildSlice .own [(.slice true 3 0 [])] 2 [(0, (.t 3)), (1, (.t 6))], none, none⟩,
    ⟨.build [(.slice true 1 0 [])] [(0, 1, (.t 7))], none, none⟩,
    ⟨.alloc [(.slice true 1 0 [])], (some 1), none⟩,
    ⟨.store false 1 (.v 1) (.t 8), none, none⟩])
  (.seq (.draw [⟨.load .asis true 1 (.v 1), none, none⟩,
    ⟨.call 22 [.asis] .share [(.c (.int .u64 5))], none, none⟩,
    ⟨.call 36 [.lend, .asis] .share [(.t 0), (.t 1)], none, none⟩,
    ⟨.move (.t 2), none, none⟩,
    ⟨.extract 0 (.t 3), none, none⟩,
    ⟨.extract 1 (.t 3), none, none⟩,
    ⟨.assign .asis (.t 4), (some 2), none⟩,
    ⟨.assign .asis (.t 5), (some 3), none⟩] [(0, 1)] [0, 1, 1, 0, 0, 0, 0, 0])
  (.seq (.region [⟨.load .asis true 1 (.v 1), none, none⟩,
    ⟨.buildSlice .share [(.int .i64 0)] 2 [(0, (.c (.int .i64 (-1)))), (1, (.c (.int .i64 0)))], none, none⟩,
    ⟨.call 57 [.lend, .asis] .own [(.t 0), (.t 1)], none, none⟩,
    ⟨.move (.t 2), none, none⟩,
    ⟨.extract 0 (.t 3), none, none⟩,
    ⟨.extract 1 (.t 3), none, none⟩,
    ⟨.alloc [(.bool false), (.slice true 1 0 []), (.slice true 1 0 [])], (some 4), none⟩,
    ⟨.store false 3 (.v 4) (.t 4), none, none⟩,
    ⟨.assign .asis (.t 5), (some 5), none⟩])
  (.seq (.region [⟨.load .asis true 1 (.v 1), none, none⟩,
    ⟨.call 2 [.lend] .share [(.t 0)], none, none⟩,
    ⟨.call 59 [.asis] .share [(.t 1)], none, none⟩,
    ⟨.bin .eql (.t 2) (.c (.str [54])), none, none⟩,
    ⟨.move (.t 3), none, none⟩,
    ⟨.move (.v 3), none, (some (4, true))⟩,
    ⟨.pick (.t 4) (.t 5) (.c (.bool false)), none, none⟩,
    ⟨.move (.t 6), none, none⟩,
    ⟨.move (.v 2), none, (some (7, true))⟩,
    ⟨.len false (.t 8), none, (some (7, true))⟩,
    ⟨.bin .eql (.t 9) (.c (.int .i64 2)), none, (some (7, true))⟩,
    ⟨.pick (.t 7) (.t 10) (.c (.bool false)), none, none⟩,
    ⟨.move (.t 11), none, none⟩,
    ⟨.move (.v 2), none, (some (12, true))⟩,
    ⟨.indexAddr 1 (.t 13) (.c (.int .i64 0)), none, (some (12, true))⟩,
    ⟨.load .asis false 1 (.t 14), none, (some (12, true))⟩,
    ⟨.bin .eql (.t 15) (.c (.int .i64 (-1))), none, (some (12, true))⟩,
    ⟨.pick (.t 12) (.t 16) (.c (.bool false)), none, none⟩,
    ⟨.move (.t 17), none, none⟩,
    ⟨.move (.v 2), none, (some (18, true))⟩,
    ⟨.indexAddr 1 (.t 19) (.c (.int .i64 1)), none, (some (18, true))⟩,
    ⟨.load .asis false 1 (.t 20), none, (some (18, true))⟩,
    ⟨.bin .eql (.t 21) (.c (.int .i64 (-1))), none, (some (18, true))⟩,
    ⟨.pick (.t 18) (.t 22) (.c (.bool false)), none, none⟩,
    ⟨.move (.t 23), none, none⟩,
    ⟨.move (.v 5), none, (some (24, true))⟩,
    ⟨.bin .eql (.t 25) (.c (.int .i64 0)), none, (some (24, true))⟩,
    ⟨.pick (.t 24) (.t 26) (.c (.bool false)), none, none⟩,
    ⟨.move (.t 27), none, none⟩,
    ⟨.load .asis true 3 (.v 4), none, (some (28, true))⟩,
    ⟨.call 60 [.lend] .share [(.t 29)], none, (some (28, true))⟩,
    ⟨.bin .eql (.t 30) (.c (.str [49, 47, 54])), none, (some (28, true))⟩,
    ⟨.pick (.t 28) (.t 31) (.c (.bool false)), none, none⟩,
    ⟨.assign .own (.t 32), (some 0), none⟩])
  .ret)))))⟩

/-- credence/credenceref11.SameWorld -/
def f43 : AFn := ⟨2, [0, 1, 4, 5], [.v 2],
  (.seq (.region [⟨.assign .asis (.c (.bool false)), (some 2), none⟩])
  (.seq (.seq (.region [⟨.move (.v 0), none, none⟩,
    ⟨.len false (.t 0), none, none⟩,
    ⟨.move (.v 1), none, none⟩,
    ⟨.len false (.t 2), none, none⟩,
    ⟨.bin .neq (.t 1) (.t 3), none, none⟩])
  (.cond (.t 4)
   (.seq (.region [⟨.assign .asis (.c (.bool false)), (some 2), none⟩])
   .ret)
   .skip))
  (.seq (.seq (.region [⟨.assign .asis (.c (.int .i64 0)), (some 3), none⟩])
  (.block 0 (.loop [0, 1, 3]
   (.seq (.seq (.region [⟨.move (.v 3), none, none⟩,
     ⟨.move (.v 0), none, none⟩,
     ⟨.len false (.t 1), none, none⟩,
     ⟨.bin .lss (.t 0) (.t 2), none, none⟩])
   (.cond (.t 3)
    .skip
    (.exit 0)))
   (.seq (.block 1 (.seq (.draw [⟨.move (.v 0), none, none⟩,
     ⟨.move (.v 3), none, none⟩,
     ⟨.indexAddr 1 (.t 0) (.t 1), none, none⟩,
     ⟨.load .asis false 1 (.t 2), none, none⟩,
     ⟨.move (.v 1), none, none⟩,
     ⟨.move (.v 3), none, none⟩,
     ⟨.indexAddr 1 (.t 4) (.t 5), none, none⟩,
     ⟨.load .asis false 1 (.t 6), none, none⟩,
     ⟨.bin .neq (.t 3) (.t 7), none, none⟩] [] [0, 0, 0, 0, 0, 0, 0, 0, 0])
   (.cond (.t 8)
    (.seq (.region [⟨.assign .asis (.c (.bool false)), (some 2), none⟩])
    .ret)
    .skip)))
   (.region [⟨.move (.v 3), none, none⟩,
     ⟨.bin .add (.t 0) (.c (.int .i64 1)), none, none⟩,
     ⟨.assign .asis (.t 1), (some 3), none⟩]))))))
  (.seq (.region [⟨.assign .asis (.c (.bool true)), (some 2), none⟩])
  .ret))))⟩

/-- credence/credenceref1.NatSame -/
def f42 : AFn := ⟨2, [0, 1, 4, 5], [.v 2],
  (.seq (.region [⟨.assign .asis (.c (.bool false)), (some 2), none⟩])
  (.seq (.seq (.region [⟨.move (.v 0), none, none⟩,
    ⟨.len false (.t 0), none, none⟩,
    ⟨.move (.v 1), none, none⟩,
    ⟨.len false (.t 2), none, none⟩,
    ⟨.bin .neq (.t 1) (.t 3), none, none⟩])
  (.cond (.t 4)
   (.seq (.region [⟨.assign .asis (.c (.bool false)), (some 2), none⟩])
   .ret)
   .skip))
  (.seq (.seq (.region [⟨.assign .asis (.c (.int .i64 0)), (some 3), none⟩])
  (.block 0 (.loop [0, 1, 3]
   (.seq (.seq (.region [⟨.move (.v 3), none, none⟩,
     ⟨.move (.v 0), none, none⟩,
     ⟨.len false (.t 1), none, none⟩,
     ⟨.bin .lss (.t 0) (.t 2), none, none⟩])
   (.cond (.t 3)
    .skip
    (.exit 0)))
   (.seq (.block 1 (.seq (.draw [⟨.move (.v 0), none, none⟩,
     ⟨.move (.v 3), none, none⟩,
     ⟨.indexAddr 1 (.t 0) (.t 1), none, none⟩,
     ⟨.load .asis false 1 (.t 2), none, none⟩,
     ⟨.move (.v 1), none, none⟩,
     ⟨.move (.v 3), none, none⟩,
     ⟨.indexAddr 1 (.t 4) (.t 5), none, none⟩,
     ⟨.load .asis false 1 (.t 6), none, none⟩,
     ⟨.bin .neq (.t 3) (.t 7), none, none⟩] [] [0, 0, 0, 0, 0, 0, 0, 0, 0])
   (.cond (.t 8)
    (.seq (.region [⟨.assign .asis (.c (.bool false)), (some 2), none⟩])
    .ret)
    .skip)))
   (.region [⟨.move (.v 3), none, none⟩,
     ⟨.bin .add (.t 0) (.c (.int .i64 1)), none, none⟩,
     ⟨.assign .asis (.t 1), (some 3), none⟩]))))))
  (.seq (.region [⟨.assign .asis (.c (.bool true)), (some 2), none⟩])
  .ret))))⟩

/-- credence/credencebase.World -/
def f41 : AFn := ⟨2, [0, 1, 2, 4, 5, 6], [.v 3],
  (.seq (.region [⟨.box (.v 0), (some 2), none⟩,
    ⟨.assign .asis (.c (.slice true 1 0 [])), (some 3), none⟩])
  (.seq (.region [⟨.assign .own (.c (.slice true 1 0 [])), (some 4), none⟩])
  (.seq (.seq (.region [⟨.assign .asis (.c (.int .i64 0)), (some 5), none⟩])
  (.block 0 (.loop [1, 2, 4, 5]
   (.seq (.seq (.region [⟨.move (.v 5), none, none⟩,
     ⟨.fieldAddr 0 (.v 2), none, none⟩,
     ⟨.load .asis false 1 (.t 1), none, none⟩,
     ⟨.len false (.t 2), none, none⟩,
     ⟨.bin .lss (.t 0) (.t 3), none, none⟩])
   (.cond (.t 4)
    .skip
    (.exit 0)))
   (.seq (.block 1 (.draw [⟨.move (.v 4), none, none⟩,
     ⟨.move (.v 1), none, none⟩,
     ⟨.move (.v 5), none, none⟩,
     ⟨.call 1 [.asis, .asis] .share [(.t 1), (.t 2)], none, none⟩,
     ⟨.fieldAddr 0 (.v 2), none, none⟩,
     ⟨.load .asis false 1 (.t 4), none, none⟩,
     ⟨.move (.v 5), none, none⟩,
     ⟨.indexAddr 1 (.t 5) (.t 6), none, none⟩,
     ⟨.fieldAddr 0 (.t 7), none, none⟩,
     ⟨.load .asis false 1 (.t 8), none, none⟩,
     ⟨.len false (.t 9), none, none⟩,
     ⟨.bin .add (.t 10) (.c (.int .i64 1)), none, none⟩,
     ⟨.bin .rem (.t 3) (.t 11), none, none⟩,
     ⟨.bin .sub (.t 12) (.c (.int .i64 1)), none, none⟩,
     ⟨.buildSlice .own [(.int .i64 0)] 1 [(0, (.t 13))], none, none⟩,
     ⟨.append true 1 8 true (.t 0) (.t 14), none, none⟩,
     ⟨.assign .asis (.t 15), (some 4), none⟩] [(3, 5), (3, 9)] [0, 0, 0, 0, 0, 0, 0, 0, 0, 0, 0, 0, 0, 0, 1, 1, 0]))
   (.region [⟨.move (.v 5), none, none⟩,
     ⟨.bin .add (.t 0) (.c (.int .i64 1)), none, none⟩,
     ⟨.assign .asis (.t 1), (some 5), none⟩]))))))
  (.seq (.region [⟨.move (.v 4), none, none⟩,
    ⟨.assign .own (.t 0), (some 3), none⟩])
  .ret))))⟩

/-- credence/worlds.digit -/
def f40 : AFn := ⟨2, [0, 1, 2, 4], [.v 3],
  (.seq (.region [⟨.box (.v 0), (some 2), none⟩,
    ⟨.assign .asis (.c (.int .i64 0)), (some 3), none⟩])
  (.seq (.seq (.region [⟨.move (.v 1), none, none⟩,
    ⟨.bin .lss (.t 0) (.c (.int .i64 0)), none, none⟩])
  (.cond (.t 1)
   (.seq (.region [⟨.fieldAddr 0 (.v 2), none, none⟩,
     ⟨.load .asis false 1 (.t 0), none, none⟩,
     ⟨.len false (.t 1), none, none⟩,
     ⟨.assign .own (.t 2), (some 3), none⟩])
   .ret)
   .skip))
  (.seq (.region [⟨.move (.v 1), none, none⟩,
    ⟨.assign .own (.t 0), (some 3), none⟩])
  .ret)))⟩

/-- credence/worlds.Contains -/
def f39 : AFn := ⟨2, [0, 1, 2, 4, 5, 6, 18, 19, 20], [.v 3],
  (.seq (.region [⟨.box (.v 0), (some 2), none⟩,
    ⟨.assign .asis (.c (.bool false)), (some 3), none⟩])
  (.seq (.seq (.region [⟨.move (.v 1), none, none⟩,
    ⟨.len false (.t 0), none, none⟩,
    ⟨.fieldAddr 0 (.v 2), none, none⟩,
    ⟨.load .asis false 1 (.t 2), none, none⟩,
    ⟨.len false (.t 3), none, none⟩,
    ⟨.bin .neq (.t 1) (.t 4), none, none⟩,
    ⟨.move (.t 5), none, none⟩,
    ⟨.load .asis true 1 (.v 2), none, (some (6, false))⟩,
    ⟨.call 3 [.lend] .share [(.t 7)], none, (some (6, false))⟩,
    ⟨.un .not (.t 8), none, (some (6, false))⟩,
    ⟨.pick (.t 6) (.c (.bool true)) (.t 9), none, none⟩])
  (.cond (.t 10)
   (.seq (.region [⟨.assign .asis (.c (.bool false)), (some 3), none⟩])
   .ret)
   .skip))
  (.seq (.seq (.region [⟨.assign .asis (.v 1), (some 6), none⟩,
    ⟨.len false (.v 6), (some 7), none⟩,
    ⟨.assign .asis (.c (.int .i64 0)), (some 8), none⟩])
  (.block 0 (.loop [2, 6, 7, 8]
   (.seq (.region [⟨.bin .lss (.v 8) (.v 7), none, none⟩])
   (.seq (.cond (.t 0)
    .skip
    (.exit 0))
   (.seq (.block 1 (.seq (.region [⟨.move (.v 8), none, none⟩,
     ⟨.indexAddr 1 (.v 6) (.v 8), none, none⟩,
     ⟨.load .asis false 1 (.t 1), none, none⟩,
     ⟨.assign .asis (.t 0), (some 4), none⟩,
     ⟨.assign .asis (.t 2), (some 5), none⟩])
   (.seq (.region [⟨.move (.v 5), none, none⟩,
     ⟨.bin .lss (.t 0) (.c (.int .i64 (-1))), none, none⟩,
     ⟨.move (.t 1), none, none⟩,
     ⟨.move (.v 5), none, (some (2, false))⟩,
     ⟨.fieldAddr 0 (.v 2), none, (some (2, false))⟩,
     ⟨.load .asis false 1 (.t 4), none, (some (2, false))⟩,
     ⟨.move (.v 4), none, (some (2, false))⟩,
     ⟨.indexAddr 1 (.t 5) (.t 6), none, (some (2, false))⟩,
     ⟨.fieldAddr 0 (.t 7), none, (some (2, false))⟩,
     ⟨.load .asis false 1 (.t 8), none, (some (2, false))⟩,
     ⟨.len false (.t 9), none, (some (2, false))⟩,
     ⟨.bin .geq (.t 3) (.t 10), none, (some (2, false))⟩,
     ⟨.pick (.t 2) (.c (.bool true)) (.t 11), none, none⟩])
   (.cond (.t 12)
    (.seq (.region [⟨.assign .asis (.c (.bool false)), (some 3), none⟩])
    .ret)
    .skip))))
   (.region [⟨.bin .add (.v 8) (.c (.int .i64 1)), none, none⟩,
     ⟨.assign .asis (.t 0), (some 8), none⟩])))))))
  (.seq (.region [⟨.assign .asis (.c (.bool true)), (some 3), none⟩])
  .ret))))⟩

/-- credence/worlds.Index -/
def f38 : AFn := ⟨2, [0, 1, 2, 4, 5, 6, 7, 8, 14, 15, 16], [.v 3, .v 4],
  (.seq (.region [⟨.box (.v 0), (some 2), none⟩,
    ⟨.assign .asis (.c (.slice true 1 0 [])), (some 3), none⟩,
    ⟨.assign .asis (.c (.bool false)), (some 4), none⟩])
  (.seq (.seq (.region [⟨.load .asis true 1 (.v 2), none, none⟩,
    ⟨.move (.v 1), none, none⟩,
    ⟨.call 39 [.lend, .asis] .share [(.t 0), (.t 1)], none, none⟩,
    ⟨.un .not (.t 2), none, none⟩])
  (.cond (.t 3)
   (.seq (.region [⟨.assign .asis (.c (.slice true 1 0 [])), (some 3), none⟩,
     ⟨.assign .asis (.c (.bool false)), (some 4), none⟩])
   .ret)
   .skip))
  (.seq (.region [⟨.assign .asis (.c (.slice true 1 0 [])), (some 5), none⟩])
  (.seq (.seq (.region [⟨.fieldAddr 0 (.v 2), none, none⟩,
    ⟨.load .share false 1 (.t 0), (some 8), none⟩,
    ⟨.len false (.v 8), (some 9), none⟩,
    ⟨.assign .asis (.c (.int .i64 0)), (some 10), none⟩])
  (.block 0 (.loop [1, 5, 8, 9, 10]
   (.seq (.region [⟨.bin .lss (.v 10) (.v 9), none, none⟩])
   (.seq (.cond (.t 0)
    .skip
    (.exit 0))
   (.seq (.block 1 (.seq (.region [⟨.move (.v 10), none, none⟩,
     ⟨.indexAddr 1 (.v 8) (.v 10), none, none⟩,
     ⟨.load .asis true 1 (.t 1), none, none⟩,
     ⟨.alloc [(.slice true 3 0 [])], (some 7), none⟩,
     ⟨.assign .asis (.t 0), (some 6), none⟩,
     ⟨.store false 1 (.v 7) (.t 2), none, none⟩])
   (.seq (.region [⟨.move (.v 5), none, none⟩,
     ⟨.load .asis true 1 (.v 7), none, none⟩,
     ⟨.call 34 [.lend] .share [(.t 1)], none, none⟩,
     ⟨.conv .u64 (.t 2), none, none⟩,
     ⟨.call 22 [.asis] .share [(.t 3)], none, none⟩,
     ⟨.call 14 [.lend, .asis] .own [(.t 0), (.t 4)], none, none⟩,
     ⟨.assign .own (.t 5), (some 5), none⟩])
   (.draw [⟨.move (.v 5), none, none⟩,
     ⟨.load .asis true 1 (.v 7), none, none⟩,
     ⟨.move (.v 1), none, none⟩,
     ⟨.move (.v 6), none, none⟩,
     ⟨.indexAddr 1 (.t 2) (.t 3), none, none⟩,
     ⟨.load .asis false 1 (.t 4), none, none⟩,
     ⟨.call 40 [.share, .asis] .share [(.t 1), (.t 5)], none, none⟩,
     ⟨.conv .u64 (.t 6), none, none⟩,
     ⟨.call 22 [.asis] .share [(.t 7)], none, none⟩,
     ⟨.call 15 [.lend, .asis] .own [(.t 0), (.t 8)], none, none⟩,
     ⟨.assign .asis (.t 9), (some 5), none⟩] [] [0, 0, 0, 0, 0, 0, 0, 0, 1, 1, 0]))))
   (.region [⟨.bin .add (.v 10) (.c (.int .i64 1)), none, none⟩,
     ⟨.assign .asis (.t 0), (some 10), none⟩])))))))
  (.seq (.region [⟨.move (.v 5), none, none⟩,
    ⟨.assign .own (.t 0), (some 3), none⟩,
    ⟨.assign .asis (.c (.bool true)), (some 4), none⟩])
  .ret)))))⟩

/-- credence/worlds.choice -/
def f37 : AFn := ⟨2, [0, 1, 2, 4], [.v 3],
  (.seq (.region [⟨.box (.v 0), (some 2), none⟩,
    ⟨.assign .asis (.c (.int .i64 0)), (some 3), none⟩])
  (.seq (.seq (.region [⟨.move (.v 1), none, none⟩,
    ⟨.fieldAddr 0 (.v 2), none, none⟩,
    ⟨.load .asis false 1 (.t 1), none, none⟩,
    ⟨.len false (.t 2), none, none⟩,
    ⟨.bin .eql (.t 0) (.t 3), none, none⟩])
  (.cond (.t 4)
   (.seq (.region [⟨.assign .asis (.c (.int .i64 (-1))), (some 3), none⟩])
   .ret)
   .skip))
  (.seq (.region [⟨.move (.v 1), none, none⟩,
    ⟨.assign .own (.t 0), (some 3), none⟩])
  .ret)))⟩

/-- credence/worlds.At -/
def f36 : AFn := ⟨2, [0, 1, 2, 4, 5, 6, 7, 8, 9, 10, 12], [.v 3, .v 4],
  (.seq (.region [⟨.box (.v 0), (some 2), none⟩,
    ⟨.assign .asis (.c (.slice true 1 0 [])), (some 3), none⟩,
    ⟨.assign .asis (.c (.bool false)), (some 4), none⟩])
  (.seq (.seq (.region [⟨.move (.v 1), none, none⟩,
    ⟨.load .asis true 1 (.v 2), none, none⟩,
    ⟨.call 2 [.lend] .share [(.t 1)], none, none⟩,
    ⟨.call 13 [.asis, .asis] .share [(.t 0), (.t 2)], none, none⟩,
    ⟨.bin .geq (.t 3) (.c (.int .i64 0)), none, none⟩])
  (.cond (.t 4)
   (.seq (.region [⟨.assign .asis (.c (.slice true 1 0 [])), (some 3), none⟩,
     ⟨.assign .asis (.c (.bool false)), (some 4), none⟩])
   .ret)
   .skip))
  (.seq (.region [⟨.fieldAddr 0 (.v 2), none, none⟩,
    ⟨.load .asis false 1 (.t 0), none, none⟩,
    ⟨.len false (.t 1), none, none⟩,
    ⟨.makeSlice .own [(.int .i64 0)] 8 (.t 2) (.t 2), none, none⟩,
    ⟨.assign .own (.t 3), (some 5), none⟩])
  (.seq (.seq (.region [⟨.move (.v 5), none, none⟩,
    ⟨.len false (.t 0), none, none⟩,
    ⟨.bin .sub (.t 1) (.c (.int .i64 1)), none, none⟩,
    ⟨.assign .asis (.t 2), (some 6), none⟩])
  (.block 0 (.loop [1, 2, 5, 6]
   (.seq (.seq (.region [⟨.move (.v 6), none, none⟩,
     ⟨.bin .geq (.t 0) (.c (.int .i64 0)), none, none⟩])
   (.cond (.t 1)
    .skip
    (.exit 0)))
   (.seq (.block 1 (.seq (.region [⟨.fieldAddr 0 (.v 2), none, none⟩,
     ⟨.load .asis false 1 (.t 0), none, none⟩,
     ⟨.move (.v 6), none, none⟩,
     ⟨.indexAddr 1 (.t 1) (.t 2), none, none⟩,
     ⟨.load .asis true 1 (.t 3), none, none⟩,
     ⟨.alloc [(.slice true 3 0 [])], (some 7), none⟩,
     ⟨.store false 1 (.v 7) (.t 4), none, none⟩])
   (.seq (.region [⟨.move (.v 1), none, none⟩,
     ⟨.load .asis true 1 (.v 7), none, none⟩,
     ⟨.call 34 [.lend] .share [(.t 1)], none, none⟩,
     ⟨.conv .u64 (.t 2), none, none⟩,
     ⟨.call 22 [.asis] .share [(.t 3)], none, none⟩,
     ⟨.call 23 [.asis, .asis] .share [(.t 0), (.t 4)], none, none⟩,
     ⟨.move (.t 5), none, none⟩,
     ⟨.extract 0 (.t 6), none, none⟩,
     ⟨.extract 1 (.t 6), none, none⟩,
     ⟨.extract 2 (.t 6), none, none⟩,
     ⟨.assign .asis (.t 7), (some 8), none⟩,
     ⟨.assign .asis (.t 8), (some 9), none⟩,
     ⟨.assign .asis (.t 9), none, none⟩])
   (.seq (.region [⟨.move (.v 9), none, none⟩,
     ⟨.call 21 [.asis] .share [(.t 0)], none, none⟩,
     ⟨.move (.t 1), none, none⟩,
     ⟨.extract 0 (.t 2), none, none⟩,
     ⟨.extract 1 (.t 2), none, none⟩,
     ⟨.assign .asis (.t 3), (some 10), none⟩,
     ⟨.assign .asis (.t 4), none, none⟩])
   (.seq (.region [⟨.move (.v 5), none, none⟩,
     ⟨.move (.v 6), none, none⟩,
     ⟨.load .asis true 1 (.v 7), none, none⟩,
     ⟨.move (.v 10), none, none⟩,
     ⟨.conv .i64 (.t 3), none, none⟩,
     ⟨.call 37 [.share, .own] .own [(.t 2), (.t 4)], none, none⟩,
     ⟨.indexAddr 1 (.t 0) (.t 1), none, none⟩,
     ⟨.store true 1 (.t 6) (.t 5), none, none⟩])
   (.region [⟨.move (.v 8), none, none⟩,
     ⟨.assign .asis (.t 0), (some 1), none⟩]))))))
   (.region [⟨.move (.v 6), none, none⟩,
     ⟨.bin .sub (.t 0) (.c (.int .i64 1)), none, none⟩,
     ⟨.assign .asis (.t 1), (some 6), none⟩]))))))
  (.seq (.region [⟨.move (.v 5), none, none⟩,
    ⟨.assign .own (.t 0), (some 3), none⟩,
    ⟨.assign .asis (.c (.bool true)), (some 4), none⟩])
  .ret)))))⟩

/-- credence/credencebase.Nat -/
def f35 : AFn := ⟨1, [0, 2, 3, 4, 5], [.v 1],
  (.seq (.region [⟨.assign .asis (.c (.slice true 1 0 [])), (some 1), none⟩])
  (.seq (.region [⟨.assign .own (.c (.slice true 1 0 [])), (some 2), none⟩])
  (.seq (.seq (.region [⟨.assign .asis (.c (.int .i64 0)), (some 3), none⟩])
  (.block 0 (.loop [0, 2, 3]
   (.seq (.seq (.region [⟨.move (.v 3), none, none⟩,
     ⟨.move (.v 0), none, none⟩,
     ⟨.len false (.t 1), none, none⟩,
     ⟨.bin .lss (.t 0) (.t 2), none, none⟩,
     ⟨.move (.t 3), none, none⟩,
     ⟨.move (.v 3), none, (some (4, true))⟩,
     ⟨.bin .lss (.t 5) (.c (.int .i64 8)), none, (some (4, true))⟩,
     ⟨.pick (.t 4) (.t 6) (.c (.bool false)), none, none⟩])
   (.cond (.t 7)
    .skip
    (.exit 0)))
   (.seq (.block 1 (.seq (.region [⟨.move (.v 0), none, none⟩,
     ⟨.move (.v 3), none, none⟩,
     ⟨.indexAddr 1 (.t 0) (.t 1), none, none⟩,
     ⟨.load .asis false 1 (.t 2), none, none⟩,
     ⟨.assign .own (.t 3), (some 4), none⟩])
   (.seq (.seq (.region [⟨.move (.v 4), none, none⟩,
     ⟨.bin .and (.t 0) (.c (.int .u32 7)), none, none⟩,
     ⟨.bin .eql (.t 1) (.c (.int .u32 7)), none, none⟩])
   (.cond (.t 2)
    (.region [⟨.move (.v 4), none, none⟩,
      ⟨.bin .shr (.t 0) (.c (.int .u64 28)), none, none⟩,
      ⟨.bin .sub (.c (.int .u32 4294967295)) (.t 1), none, none⟩,
      ⟨.assign .own (.t 2), (some 4), none⟩])
    .skip))
   (.region [⟨.move (.v 2), none, none⟩,
     ⟨.move (.v 4), none, none⟩,
     ⟨.buildSlice .own [(.int .u32 0)] 1 [(0, (.t 1))], none, none⟩,
     ⟨.append true 1 4 true (.t 0) (.t 2), none, none⟩,
     ⟨.assign .own (.t 3), (some 2), none⟩]))))
   (.region [⟨.move (.v 3), none, none⟩,
     ⟨.bin .add (.t 0) (.c (.int .i64 1)), none, none⟩,
     ⟨.assign .asis (.t 1), (some 3), none⟩]))))))
  (.seq (.region [⟨.move (.v 2), none, none⟩,
    ⟨.assign .own (.t 0), (some 1), none⟩])
  .ret))))⟩

/-- credence/worlds.radix -/
def f34 : AFn := ⟨1, [0, 1, 2], [.v 2],
  (.seq (.region [⟨.box (.v 0), (some 1), none⟩,
    ⟨.assign .asis (.c (.int .i64 0)), (some 2), none⟩])
  (.seq (.region [⟨.fieldAddr 0 (.v 1), none, none⟩,
    ⟨.load .asis false 1 (.t 0), none, none⟩,
    ⟨.len false (.t 1), none, none⟩,
    ⟨.bin .add (.t 2) (.c (.int .i64 1)), none, none⟩,
    ⟨.assign .own (.t 3), (some 2), none⟩])
  .ret))⟩

/-- credence/rational.Neg -/
def f33 : AFn := ⟨1, [0, 1, 2], [.cell 2 true 3],
  (.seq (.region [⟨.box (.v 0), (some 1), none⟩,
    ⟨.alloc [(.bool false), (.slice true 1 0 []), (.slice true 1 0 [])], (some 2), none⟩])
  (.seq (.region [⟨.fieldAddr 0 (.v 1), none, none⟩,
    ⟨.load .asis false 1 (.t 0), none, none⟩,
    ⟨.un .not (.t 1), none, none⟩,
    ⟨.fieldAddr 1 (.v 1), none, none⟩,
    ⟨.load .asis false 1 (.t 3), none, none⟩,
    ⟨.fieldAddr 2 (.v 1), none, none⟩,
    ⟨.load .asis false 1 (.t 5), none, none⟩,
    ⟨.call 16 [.asis, .share, .share] .own [(.t 2), (.t 4), (.t 6)], none, none⟩,
    ⟨.store false 3 (.v 2) (.t 7), none, none⟩])
  .ret))⟩

/-- credence/rational.Sub -/
def f32 : AFn := ⟨2, [0, 1, 2, 3, 4], [.cell 4 true 3],
  (.seq (.region [⟨.box (.v 0), (some 2), none⟩,
    ⟨.box (.v 1), (some 3), none⟩,
    ⟨.alloc [(.bool false), (.slice true 1 0 []), (.slice true 1 0 [])], (some 4), none⟩])
  (.seq (.draw [⟨.load .own true 3 (.v 2), none, none⟩,
    ⟨.load .asis true 3 (.v 3), none, none⟩,
    ⟨.call 33 [.lend] .own [(.t 1)], none, none⟩,
    ⟨.call 12 [.own, .own] .own [(.t 0), (.t 2)], none, none⟩,
    ⟨.store false 3 (.v 4) (.t 3), none, none⟩] [(0, 1), (0, 2)] [2, 0, 2, 2, 0])
  .ret))⟩

/-- credence/rational.Complement -/
def f31 : AFn := ⟨1, [0, 1, 2], [.cell 2 true 3],
  (.seq (.region [⟨.box (.v 0), (some 1), none⟩,
    ⟨.alloc [(.bool false), (.slice true 1 0 []), (.slice true 1 0 [])], (some 2), none⟩])
  (.seq (.draw [⟨.call 9 [] .own [], none, none⟩,
    ⟨.call 9 [] .own [], none, none⟩,
    ⟨.build [(.bool false), (.slice true 1 0 []), (.slice true 1 0 [])] [(1, 1, (.t 0)), (2, 1, (.t 1))], none, none⟩,
    ⟨.load .asis true 3 (.v 1), none, none⟩,
    ⟨.call 32 [.own, .share] .own [(.t 2), (.t 3)], none, none⟩,
    ⟨.store false 3 (.v 2) (.t 4), none, none⟩] [(0, 3), (1, 3)] [1, 1, 0, 0, 2, 0])
  .ret))⟩

/-- credence/bignat.Sub -/
def f30 : AFn := ⟨2, [0, 1, 4, 5, 6, 7, 8, 9, 22, 23], [.v 2, .v 3],
  (.seq (.region [⟨.assign .asis (.c (.slice true 1 0 [])), (some 2), none⟩,
    ⟨.assign .asis (.c (.bool false)), (some 3), none⟩])
  (.seq (.region [⟨.move (.v 0), none, none⟩,
    ⟨.call 7 [.asis] .share [(.t 0)], none, none⟩,
    ⟨.move (.v 1), none, none⟩,
    ⟨.call 7 [.asis] .share [(.t 2)], none, none⟩,
    ⟨.assign .asis (.t 1), (some 0), none⟩,
    ⟨.assign .asis (.t 3), (some 1), none⟩])
  (.seq (.seq (.region [⟨.move (.v 0), none, none⟩,
    ⟨.move (.v 1), none, none⟩,
    ⟨.call 13 [.asis, .asis] .share [(.t 0), (.t 1)], none, none⟩,
    ⟨.bin .lss (.t 2) (.c (.int .i64 0)), none, none⟩])
  (.cond (.t 3)
   (.seq (.region [⟨.assign .asis (.c (.slice true 1 0 [])), (some 2), none⟩,
     ⟨.assign .asis (.c (.bool false)), (some 3), none⟩])
   .ret)
   .skip))
  (.seq (.region [⟨.move (.v 0), none, none⟩,
    ⟨.len false (.t 0), none, none⟩,
    ⟨.makeSlice .own [(.int .u32 0)] 4 (.t 1) (.t 1), none, none⟩,
    ⟨.assign .own (.t 2), (some 4), none⟩])
  (.seq (.region [⟨.assign .asis (.c (.int .u64 0)), (some 5), none⟩])
  (.seq (.seq (.region [⟨.move (.v 0), none, none⟩,
    ⟨.len false (.t 0), (some 8), none⟩,
    ⟨.assign .asis (.c (.int .i64 0)), (some 9), none⟩])
  (.block 0 (.loop [0, 1, 4, 5, 8, 9]
   (.seq (.region [⟨.bin .lss (.v 9) (.v 8), none, none⟩])
   (.seq (.cond (.t 0)
    .skip
    (.exit 0))
   (.seq (.block 1 (.seq (.region [⟨.move (.v 9), none, none⟩,
     ⟨.assign .asis (.t 0), (some 6), none⟩])
   (.seq (.region [⟨.move (.v 0), none, none⟩,
     ⟨.move (.v 6), none, none⟩,
     ⟨.indexAddr 1 (.t 0) (.t 1), none, none⟩,
     ⟨.load .asis false 1 (.t 2), none, none⟩,
     ⟨.conv .u64 (.t 3), none, none⟩,
     ⟨.move (.v 5), none, none⟩,
     ⟨.bin .sub (.t 4) (.t 5), none, none⟩,
     ⟨.assign .asis (.t 6), (some 7), none⟩])
   (.seq (.seq (.region [⟨.move (.v 6), none, none⟩,
     ⟨.move (.v 1), none, none⟩,
     ⟨.len false (.t 1), none, none⟩,
     ⟨.bin .lss (.t 0) (.t 2), none, none⟩])
   (.cond (.t 3)
    (.region [⟨.move (.v 7), none, none⟩,
      ⟨.move (.v 1), none, none⟩,
      ⟨.move (.v 6), none, none⟩,
      ⟨.indexAddr 1 (.t 1) (.t 2), none, none⟩,
      ⟨.load .asis false 1 (.t 3), none, none⟩,
      ⟨.conv .u64 (.t 4), none, none⟩,
      ⟨.bin .sub (.t 0) (.t 5), none, none⟩,
      ⟨.assign .asis (.t 6), (some 7), none⟩])
    .skip))
   (.seq (.region [⟨.move (.v 4), none, none⟩,
     ⟨.move (.v 6), none, none⟩,
     ⟨.move (.v 7), none, none⟩,
     ⟨.conv .u32 (.t 2), none, none⟩,
     ⟨.indexAddr 1 (.t 0) (.t 1), none, none⟩,
     ⟨.store true 1 (.t 4) (.t 3), none, none⟩])
   (.region [⟨.move (.v 7), none, none⟩,
     ⟨.bin .shr (.t 0) (.c (.int .u64 63)), none, none⟩,
     ⟨.assign .asis (.t 1), (some 5), none⟩]))))))
   (.region [⟨.bin .add (.v 9) (.c (.int .i64 1)), none, none⟩,
     ⟨.assign .asis (.t 0), (some 9), none⟩])))))))
  (.seq (.region [⟨.move (.v 4), none, none⟩,
    ⟨.call 7 [.own] .own [(.t 0)], none, none⟩,
    ⟨.assign .own (.t 1), (some 2), none⟩,
    ⟨.assign .asis (.c (.bool true)), (some 3), none⟩])
  .ret)))))))⟩

/-- credence/bignat.addBack -/
def f29 : AFn := ⟨2, [0, 1, 4, 5, 6, 7, 8, 9], [],
  (.seq (.region [⟨.assign .asis (.c (.int .u64 0)), (some 2), none⟩])
  (.seq (.seq (.region [⟨.assign .asis (.v 1), (some 5), none⟩,
    ⟨.len false (.v 5), (some 6), none⟩,
    ⟨.assign .asis (.c (.int .i64 0)), (some 7), none⟩])
  (.block 0 (.loop [0, 2, 5, 6, 7]
   (.seq (.region [⟨.bin .lss (.v 7) (.v 6), none, none⟩])
   (.seq (.cond (.t 0)
    .skip
    (.exit 0))
   (.seq (.block 1 (.seq (.region [⟨.move (.v 7), none, none⟩,
     ⟨.indexAddr 1 (.v 5) (.v 7), none, none⟩,
     ⟨.load .asis false 1 (.t 1), none, none⟩,
     ⟨.assign .asis (.t 0), (some 3), none⟩,
     ⟨.assign .asis (.t 2), (some 4), none⟩])
   (.seq (.region [⟨.move (.v 2), none, none⟩,
     ⟨.move (.v 0), none, none⟩,
     ⟨.move (.v 3), none, none⟩,
     ⟨.indexAddr 1 (.t 1) (.t 2), none, none⟩,
     ⟨.load .asis false 1 (.t 3), none, none⟩,
     ⟨.conv .u64 (.t 4), none, none⟩,
     ⟨.move (.v 4), none, none⟩,
     ⟨.conv .u64 (.t 6), none, none⟩,
     ⟨.bin .add (.t 5) (.t 7), none, none⟩,
     ⟨.bin .add (.t 0) (.t 8), none, none⟩,
     ⟨.assign .asis (.t 9), (some 2), none⟩])
   (.seq (.region [⟨.move (.v 0), none, none⟩,
     ⟨.move (.v 3), none, none⟩,
     ⟨.move (.v 2), none, none⟩,
     ⟨.conv .u32 (.t 2), none, none⟩,
     ⟨.indexAddr 1 (.t 0) (.t 1), none, none⟩,
     ⟨.store true 1 (.t 4) (.t 3), none, none⟩])
   (.region [⟨.move (.v 2), none, none⟩,
     ⟨.bin .shr (.t 0) (.c (.int .u64 32)), none, none⟩,
     ⟨.assign .asis (.t 1), (some 2), none⟩])))))
   (.region [⟨.bin .add (.v 7) (.c (.int .i64 1)), none, none⟩,
     ⟨.assign .asis (.t 0), (some 7), none⟩])))))))
  (.region [⟨.move (.v 0), none, none⟩,
    ⟨.move (.v 0), none, none⟩,
    ⟨.len false (.t 1), none, none⟩,
    ⟨.bin .sub (.t 2) (.c (.int .i64 1)), none, none⟩,
    ⟨.indexAddr 1 (.t 0) (.t 3), none, none⟩,
    ⟨.load .asis false 1 (.t 4), none, none⟩,
    ⟨.move (.v 2), none, none⟩,
    ⟨.conv .u32 (.t 6), none, none⟩,
    ⟨.bin .add (.t 5) (.t 7), none, none⟩,
    ⟨.indexAddr 1 (.t 0) (.t 3), none, none⟩,
    ⟨.store true 1 (.t 9) (.t 8), none, none⟩])))⟩

/-- credence/bignat.subtractScaled -/
def f28 : AFn := ⟨3, [0, 1, 2, 6, 7, 8, 9, 10, 11, 12, 13, 14, 15, 16], [.v 3],
  (.seq (.region [⟨.assign .asis (.c (.bool false)), (some 3), none⟩])
  (.seq (.region [⟨.assign .asis (.c (.int .u64 0)), (some 4), none⟩])
  (.seq (.seq (.region [⟨.assign .asis (.v 1), (some 11), none⟩,
    ⟨.len false (.v 11), (some 12), none⟩,
    ⟨.assign .asis (.c (.int .i64 0)), (some 13), none⟩])
  (.block 0 (.loop [0, 2, 4, 11, 12, 13]
   (.seq (.region [⟨.bin .lss (.v 13) (.v 12), none, none⟩])
   (.seq (.cond (.t 0)
    .skip
    (.exit 0))
   (.seq (.block 1 (.seq (.region [⟨.move (.v 13), none, none⟩,
     ⟨.indexAddr 1 (.v 11) (.v 13), none, none⟩,
     ⟨.load .asis false 1 (.t 1), none, none⟩,
     ⟨.assign .asis (.t 0), (some 5), none⟩,
     ⟨.assign .asis (.t 2), (some 6), none⟩])
   (.seq (.region [⟨.move (.v 2), none, none⟩,
     ⟨.move (.v 6), none, none⟩,
     ⟨.conv .u64 (.t 1), none, none⟩,
     ⟨.bin .mul (.t 0) (.t 2), none, none⟩,
     ⟨.move (.v 4), none, none⟩,
     ⟨.bin .add (.t 3) (.t 4), none, none⟩,
     ⟨.assign .asis (.t 5), (some 7), none⟩])
   (.seq (.region [⟨.move (.v 7), none, none⟩,
     ⟨.conv .u32 (.t 0), none, none⟩,
     ⟨.assign .asis (.t 1), (some 8), none⟩])
   (.seq (.region [⟨.move (.v 7), none, none⟩,
     ⟨.bin .shr (.t 0) (.c (.int .u64 32)), none, none⟩,
     ⟨.assign .asis (.t 1), (some 4), none⟩])
   (.seq (.seq (.region [⟨.move (.v 0), none, none⟩,
     ⟨.move (.v 5), none, none⟩,
     ⟨.indexAddr 1 (.t 0) (.t 1), none, none⟩,
     ⟨.load .asis false 1 (.t 2), none, none⟩,
     ⟨.move (.v 8), none, none⟩,
     ⟨.bin .lss (.t 3) (.t 4), none, none⟩])
   (.cond (.t 5)
    (.region [⟨.move (.v 4), none, none⟩,
      ⟨.bin .add (.t 0) (.c (.int .u64 1)), none, none⟩,
      ⟨.assign .asis (.t 1), (some 4), none⟩])
    .skip))
   (.region [⟨.move (.v 0), none, none⟩,
     ⟨.move (.v 5), none, none⟩,
     ⟨.indexAddr 1 (.t 0) (.t 1), none, none⟩,
     ⟨.load .asis false 1 (.t 2), none, none⟩,
     ⟨.move (.v 8), none, none⟩,
     ⟨.bin .sub (.t 3) (.t 4), none, none⟩,
     ⟨.indexAddr 1 (.t 0) (.t 1), none, none⟩,
     ⟨.store true 1 (.t 6) (.t 5), none, none⟩])))))))
   (.region [⟨.bin .add (.v 13) (.c (.int .i64 1)), none, none⟩,
     ⟨.assign .asis (.t 0), (some 13), none⟩])))))))
  (.seq (.region [⟨.move (.v 0), none, none⟩,
    ⟨.len false (.t 0), none, none⟩,
    ⟨.bin .sub (.t 1) (.c (.int .i64 1)), none, none⟩,
    ⟨.assign .asis (.t 2), (some 9), none⟩])
  (.seq (.region [⟨.move (.v 0), none, none⟩,
    ⟨.move (.v 9), none, none⟩,
    ⟨.indexAddr 1 (.t 0) (.t 1), none, none⟩,
    ⟨.load .asis false 1 (.t 2), none, none⟩,
    ⟨.conv .u64 (.t 3), none, none⟩,
    ⟨.move (.v 4), none, none⟩,
    ⟨.bin .lss (.t 4) (.t 5), none, none⟩,
    ⟨.assign .own (.t 6), (some 10), none⟩])
  (.seq (.region [⟨.move (.v 0), none, none⟩,
    ⟨.move (.v 9), none, none⟩,
    ⟨.indexAddr 1 (.t 0) (.t 1), none, none⟩,
    ⟨.load .asis false 1 (.t 2), none, none⟩,
    ⟨.move (.v 4), none, none⟩,
    ⟨.conv .u32 (.t 4), none, none⟩,
    ⟨.bin .sub (.t 3) (.t 5), none, none⟩,
    ⟨.indexAddr 1 (.t 0) (.t 1), none, none⟩,
    ⟨.store true 1 (.t 7) (.t 6), none, none⟩])
  (.seq (.region [⟨.move (.v 10), none, none⟩,
    ⟨.assign .own (.t 0), (some 3), none⟩])
  .ret)))))))⟩

/-- credence/bignat.shiftLeft -/
def f27 : AFn := ⟨3, [0, 1, 2, 6, 7, 8, 9, 13, 14], [.v 3],
  (.seq (.region [⟨.assign .asis (.c (.slice true 1 0 [])), (some 3), none⟩])
  (.seq (.region [⟨.move (.v 2), none, none⟩,
    ⟨.makeSlice .own [(.int .u32 0)] 4 (.t 0) (.t 0), none, none⟩,
    ⟨.assign .own (.t 1), (some 4), none⟩])
  (.seq (.region [⟨.assign .asis (.c (.int .u64 0)), (some 5), none⟩])
  (.seq (.seq (.region [⟨.move (.v 4), none, none⟩,
    ⟨.len false (.t 0), (some 7), none⟩,
    ⟨.assign .asis (.c (.int .i64 0)), (some 8), none⟩])
  (.block 0 (.loop [0, 1, 4, 5, 7, 8]
   (.seq (.region [⟨.bin .lss (.v 8) (.v 7), none, none⟩])
   (.seq (.cond (.t 0)
    .skip
    (.exit 0))
   (.seq (.block 1 (.seq (.region [⟨.move (.v 8), none, none⟩,
     ⟨.assign .asis (.t 0), (some 6), none⟩])
   (.seq (.seq (.region [⟨.move (.v 6), none, none⟩,
     ⟨.move (.v 0), none, none⟩,
     ⟨.len false (.t 1), none, none⟩,
     ⟨.bin .lss (.t 0) (.t 2), none, none⟩])
   (.cond (.t 3)
    (.region [⟨.move (.v 5), none, none⟩,
      ⟨.move (.v 0), none, none⟩,
      ⟨.move (.v 6), none, none⟩,
      ⟨.indexAddr 1 (.t 1) (.t 2), none, none⟩,
      ⟨.load .asis false 1 (.t 3), none, none⟩,
      ⟨.conv .u64 (.t 4), none, none⟩,
      ⟨.move (.v 1), none, none⟩,
      ⟨.bin .shl (.t 5) (.t 6), none, none⟩,
      ⟨.bin .or (.t 0) (.t 7), none, none⟩,
      ⟨.assign .asis (.t 8), (some 5), none⟩])
    .skip))
   (.seq (.region [⟨.move (.v 4), none, none⟩,
     ⟨.move (.v 6), none, none⟩,
     ⟨.move (.v 5), none, none⟩,
     ⟨.conv .u32 (.t 2), none, none⟩,
     ⟨.indexAddr 1 (.t 0) (.t 1), none, none⟩,
     ⟨.store true 1 (.t 4) (.t 3), none, none⟩])
   (.region [⟨.move (.v 5), none, none⟩,
     ⟨.bin .shr (.t 0) (.c (.int .u64 32)), none, none⟩,
     ⟨.assign .asis (.t 1), (some 5), none⟩])))))
   (.region [⟨.bin .add (.v 8) (.c (.int .i64 1)), none, none⟩,
     ⟨.assign .asis (.t 0), (some 8), none⟩])))))))
  (.seq (.region [⟨.move (.v 4), none, none⟩,
    ⟨.assign .own (.t 0), (some 3), none⟩])
  .ret)))))⟩

/-- math/bits.LeadingZeros32 -/
def f26 : AFn := ⟨1, [0, 2], [.v 1],
  (.seq (.region [⟨.assign .asis (.c (.int .i64 0)), (some 1), none⟩])
  (.seq (.region [⟨.move (.v 0), none, none⟩,
    ⟨.call 8 [.asis] .share [(.t 0)], none, none⟩,
    ⟨.bin .sub (.c (.int .i64 32)) (.t 1), none, none⟩,
    ⟨.assign .own (.t 2), (some 1), none⟩])
  .ret))⟩

/-- credence/bignat.divLong -/
def f25 : AFn := ⟨2, [0, 1, 4, 5, 6, 7, 8, 9, 10, 11, 12, 13, 14, 15, 16, 17, 18, 144, 145], [.v 2, .v 3],
  (.seq (.region [⟨.assign .asis (.c (.slice true 1 0 [])), (some 2), none⟩,
    ⟨.assign .asis (.c (.slice true 1 0 [])), (some 3), none⟩])
  (.seq (.region [⟨.move (.v 1), none, none⟩,
    ⟨.len false (.t 0), none, none⟩,
    ⟨.assign .asis (.t 1), (some 4), none⟩])
  (.seq (.region [⟨.move (.v 1), none, none⟩,
    ⟨.move (.v 4), none, none⟩,
    ⟨.bin .sub (.t 1) (.c (.int .i64 1)), none, none⟩,
    ⟨.indexAddr 1 (.t 0) (.t 2), none, none⟩,
    ⟨.load .asis false 1 (.t 3), none, none⟩,
    ⟨.call 26 [.asis] .share [(.t 4)], none, none⟩,
    ⟨.conv .u64 (.t 5), none, none⟩,
    ⟨.assign .asis (.t 6), (some 5), none⟩])
  (.seq (.region [⟨.move (.v 0), none, none⟩,
    ⟨.move (.v 5), none, none⟩,
    ⟨.move (.v 0), none, none⟩,
    ⟨.len false (.t 2), none, none⟩,
    ⟨.bin .add (.t 3) (.c (.int .i64 1)), none, none⟩,
    ⟨.call 27 [.asis, .asis, .asis] .own [(.t 0), (.t 1), (.t 4)], none, none⟩,
    ⟨.assign .own (.t 5), (some 6), none⟩])
  (.seq (.region [⟨.move (.v 1), none, none⟩,
    ⟨.move (.v 5), none, none⟩,
    ⟨.move (.v 4), none, none⟩,
    ⟨.call 27 [.asis, .asis, .asis] .share [(.t 0), (.t 1), (.t 2)], none, none⟩,
    ⟨.assign .asis (.t 3), (some 7), none⟩])
  (.seq (.region [⟨.move (.v 0), none, none⟩,
    ⟨.len false (.t 0), none, none⟩,
    ⟨.move (.v 4), none, none⟩,
    ⟨.bin .sub (.t 1) (.t 2), none, none⟩,
    ⟨.bin .add (.t 3) (.c (.int .i64 1)), none, none⟩,
    ⟨.makeSlice .own [(.int .u32 0)] 4 (.t 4) (.t 4), none, none⟩,
    ⟨.assign .own (.t 5), (some 8), none⟩])
  (.seq (.draw [⟨.move (.v 7), none, none⟩,
    ⟨.move (.v 4), none, none⟩,
    ⟨.bin .sub (.t 1) (.c (.int .i64 1)), none, none⟩,
    ⟨.indexAddr 1 (.t 0) (.t 2), none, none⟩,
    ⟨.load .asis false 1 (.t 3), none, none⟩,
    ⟨.conv .u64 (.t 4), none, none⟩,
    ⟨.move (.v 7), none, none⟩,
    ⟨.move (.v 4), none, none⟩,
    ⟨.bin .sub (.t 7) (.c (.int .i64 2)), none, none⟩,
    ⟨.indexAddr 1 (.t 6) (.t 8), none, none⟩,
    ⟨.load .asis false 1 (.t 9), none, none⟩,
    ⟨.conv .u64 (.t 10), none, none⟩,
    ⟨.assign .asis (.t 5), (some 9), none⟩,
    ⟨.assign .asis (.t 11), (some 10), none⟩] [] [0, 0, 0, 0, 0, 0, 0, 0, 0, 0, 0, 0, 0, 0])
  (.seq (.seq (.region [⟨.move (.v 0), none, none⟩,
    ⟨.len false (.t 0), none, none⟩,
    ⟨.move (.v 4), none, none⟩,
    ⟨.bin .sub (.t 1) (.t 2), none, none⟩,
    ⟨.assign .asis (.t 3), (some 11), none⟩])
  (.block 0 (.loop [4, 5, 6, 7, 8, 9, 10, 11]
   (.seq (.seq (.region [⟨.move (.v 11), none, none⟩,
     ⟨.bin .geq (.t 0) (.c (.int .i64 0)), none, none⟩])
   (.cond (.t 1)
    .skip
    (.exit 0)))
   (.seq (.block 1 (.seq (.draw [⟨.move (.v 6), none, none⟩,
     ⟨.move (.v 11), none, none⟩,
     ⟨.move (.v 4), none, none⟩,
     ⟨.bin .add (.t 1) (.t 2), none, none⟩,
     ⟨.indexAddr 1 (.t 0) (.t 3), none, none⟩,
     ⟨.load .asis false 1 (.t 4), none, none⟩,
     ⟨.conv .u64 (.t 5), none, none⟩,
     ⟨.bin .shl (.t 6) (.c (.int .u64 32)), none, none⟩,
     ⟨.move (.v 6), none, none⟩,
     ⟨.move (.v 11), none, none⟩,
     ⟨.move (.v 4), none, none⟩,
     ⟨.bin .add (.t 9) (.t 10), none, none⟩,
     ⟨.bin .sub (.t 11) (.c (.int .i64 1)), none, none⟩,
     ⟨.indexAddr 1 (.t 8) (.t 12), none, none⟩,
     ⟨.load .asis false 1 (.t 13), none, none⟩,
     ⟨.conv .u64 (.t 14), none, none⟩,
     ⟨.bin .or (.t 7) (.t 15), none, none⟩,
     ⟨.assign .asis (.t 16), (some 12), none⟩] [] [0, 0, 0, 0, 0, 0, 0, 0, 0, 0, 0, 0, 0, 0, 0, 0, 0, 0])
   (.seq (.draw [⟨.move (.v 12), none, none⟩,
     ⟨.move (.v 9), none, none⟩,
     ⟨.bin .quo (.t 0) (.t 1), none, none⟩,
     ⟨.move (.v 12), none, none⟩,
     ⟨.move (.v 9), none, none⟩,
     ⟨.bin .rem (.t 3) (.t 4), none, none⟩,
     ⟨.assign .asis (.t 2), (some 13), none⟩,
     ⟨.assign .asis (.t 5), (some 14), none⟩] [] [0, 0, 0, 0, 0, 0, 0, 0])
   (.seq (.block 2 (.loop [4, 5, 6, 7, 8, 9, 10, 11, 13, 14]
    (.seq (.seq (.region [⟨.move (.v 13), none, none⟩,
      ⟨.bin .shr (.t 0) (.c (.int .u64 32)), none, none⟩,
      ⟨.bin .neq (.t 1) (.c (.int .u64 0)), none, none⟩,
      ⟨.move (.t 2), none, none⟩,
      ⟨.move (.v 13), none, (some (3, false))⟩,
      ⟨.move (.v 10), none, (some (3, false))⟩,
      ⟨.bin .mul (.t 4) (.t 5), none, (some (3, false))⟩,
      ⟨.move (.v 14), none, (some (3, false))⟩,
      ⟨.bin .shl (.t 7) (.c (.int .u64 32)), none, (some (3, false))⟩,
      ⟨.move (.v 6), none, (some (3, false))⟩,
      ⟨.move (.v 11), none, (some (3, false))⟩,
      ⟨.move (.v 4), none, (some (3, false))⟩,
      ⟨.bin .add (.t 10) (.t 11), none, (some (3, false))⟩,
      ⟨.bin .sub (.t 12) (.c (.int .i64 2)), none, (some (3, false))⟩,
      ⟨.indexAddr 1 (.t 9) (.t 13), none, (some (3, false))⟩,
      ⟨.load .asis false 1 (.t 14), none, (some (3, false))⟩,
      ⟨.conv .u64 (.t 15), none, (some (3, false))⟩,
      ⟨.bin .or (.t 8) (.t 16), none, (some (3, false))⟩,
      ⟨.bin .gtr (.t 6) (.t 17), none, (some (3, false))⟩,
      ⟨.pick (.t 3) (.c (.bool true)) (.t 18), none, none⟩])
    (.cond (.t 19)
     .skip
     (.exit 2)))
    (.block 3 (.seq (.region [⟨.move (.v 13), none, none⟩,
      ⟨.bin .sub (.t 0) (.c (.int .u64 1)), none, none⟩,
      ⟨.assign .asis (.t 1), (some 13), none⟩])
    (.seq (.region [⟨.move (.v 14), none, none⟩,
      ⟨.move (.v 9), none, none⟩,
      ⟨.bin .add (.t 0) (.t 1), none, none⟩,
      ⟨.assign .asis (.t 2), (some 14), none⟩])
    (.seq (.region [⟨.move (.v 14), none, none⟩,
      ⟨.bin .shr (.t 0) (.c (.int .u64 32)), none, none⟩,
      ⟨.bin .neq (.t 1) (.c (.int .u64 0)), none, none⟩])
    (.cond (.t 2)
     (.exit 2)
     .skip))))))))
   (.seq (.seq (.region [⟨.move (.v 6), none, none⟩,
     ⟨.move (.v 11), none, none⟩,
     ⟨.move (.v 11), none, none⟩,
     ⟨.move (.v 4), none, none⟩,
     ⟨.bin .add (.t 2) (.t 3), none, none⟩,
     ⟨.bin .add (.t 4) (.c (.int .i64 1)), none, none⟩,
     ⟨.slice 1 (.t 0) (some (.t 1)) (some (.t 5)), none, none⟩,
     ⟨.move (.v 7), none, none⟩,
     ⟨.move (.v 13), none, none⟩,
     ⟨.call 28 [.asis, .asis, .asis] .share [(.t 6), (.t 7), (.t 8)], none, none⟩])
   (.cond (.t 9)
    (.seq (.region [⟨.move (.v 13), none, none⟩,
      ⟨.bin .sub (.t 0) (.c (.int .u64 1)), none, none⟩,
      ⟨.assign .asis (.t 1), (some 13), none⟩])
    (.region [⟨.move (.v 6), none, none⟩,
      ⟨.move (.v 11), none, none⟩,
      ⟨.move (.v 11), none, none⟩,
      ⟨.move (.v 4), none, none⟩,
      ⟨.bin .add (.t 2) (.t 3), none, none⟩,
      ⟨.bin .add (.t 4) (.c (.int .i64 1)), none, none⟩,
      ⟨.slice 1 (.t 0) (some (.t 1)) (some (.t 5)), none, none⟩,
      ⟨.move (.v 7), none, none⟩,
      ⟨.call 29 [.asis, .asis] .share [(.t 6), (.t 7)], none, none⟩]))
    .skip))
   (.region [⟨.move (.v 8), none, none⟩,
     ⟨.move (.v 11), none, none⟩,
     ⟨.move (.v 13), none, none⟩,
     ⟨.conv .u32 (.t 2), none, none⟩,
     ⟨.indexAddr 1 (.t 0) (.t 1), none, none⟩,
     ⟨.store true 1 (.t 4) (.t 3), none, none⟩]))))))
   (.region [⟨.move (.v 11), none, none⟩,
     ⟨.bin .sub (.t 0) (.c (.int .i64 1)), none, none⟩,
     ⟨.assign .asis (.t 1), (some 11), none⟩]))))))
  (.seq (.region [⟨.move (.v 4), none, none⟩,
    ⟨.makeSlice .own [(.int .u32 0)] 4 (.t 0) (.t 0), none, none⟩,
    ⟨.assign .own (.t 1), (some 15), none⟩])
  (.seq (.seq (.region [⟨.move (.v 15), none, none⟩,
    ⟨.len false (.t 0), (some 17), none⟩,
    ⟨.assign .asis (.c (.int .i64 0)), (some 18), none⟩])
  (.block 4 (.loop [5, 6, 8, 15, 17, 18]
   (.seq (.region [⟨.bin .lss (.v 18) (.v 17), none, none⟩])
   (.seq (.cond (.t 0)
    .skip
    (.exit 4))
   (.seq (.block 5 (.seq (.region [⟨.move (.v 18), none, none⟩,
     ⟨.assign .asis (.t 0), (some 16), none⟩])
   (.draw [⟨.move (.v 15), none, none⟩,
     ⟨.move (.v 16), none, none⟩,
     ⟨.move (.v 6), none, none⟩,
     ⟨.move (.v 16), none, none⟩,
     ⟨.bin .add (.t 3) (.c (.int .i64 1)), none, none⟩,
     ⟨.indexAddr 1 (.t 2) (.t 4), none, none⟩,
     ⟨.load .asis false 1 (.t 5), none, none⟩,
     ⟨.conv .u64 (.t 6), none, none⟩,
     ⟨.bin .shl (.t 7) (.c (.int .u64 32)), none, none⟩,
     ⟨.move (.v 6), none, none⟩,
     ⟨.move (.v 16), none, none⟩,
     ⟨.indexAddr 1 (.t 9) (.t 10), none, none⟩,
     ⟨.load .asis false 1 (.t 11), none, none⟩,
     ⟨.conv .u64 (.t 12), none, none⟩,
     ⟨.bin .or (.t 8) (.t 13), none, none⟩,
     ⟨.move (.v 5), none, none⟩,
     ⟨.bin .shr (.t 14) (.t 15), none, none⟩,
     ⟨.conv .u32 (.t 16), none, none⟩,
     ⟨.indexAddr 1 (.t 0) (.t 1), none, none⟩,
     ⟨.store true 1 (.t 18) (.t 17), none, none⟩] [] [0, 0, 0, 0, 0, 0, 0, 0, 0, 0, 0, 0, 0, 0, 0, 0, 0, 0, 0, 0])))
   (.region [⟨.bin .add (.v 18) (.c (.int .i64 1)), none, none⟩,
     ⟨.assign .asis (.t 0), (some 18), none⟩])))))))
  (.seq (.region [⟨.move (.v 8), none, none⟩,
    ⟨.call 7 [.own] .own [(.t 0)], none, none⟩,
    ⟨.move (.v 15), none, none⟩,
    ⟨.call 7 [.own] .own [(.t 2)], none, none⟩,
    ⟨.assign .own (.t 1), (some 2), none⟩,
    ⟨.assign .own (.t 3), (some 3), none⟩])
  .ret)))))))))))⟩

/-- credence/bignat.divSmall -/
def f24 : AFn := ⟨2, [0, 1, 4, 5, 6, 7, 8], [.v 2, .v 3],
  (.seq (.region [⟨.assign .asis (.c (.slice true 1 0 [])), (some 2), none⟩,
    ⟨.assign .asis (.c (.int .u32 0)), (some 3), none⟩])
  (.seq (.region [⟨.move (.v 0), none, none⟩,
    ⟨.len false (.t 0), none, none⟩,
    ⟨.makeSlice .own [(.int .u32 0)] 4 (.t 1) (.t 1), none, none⟩,
    ⟨.assign .own (.t 2), (some 4), none⟩])
  (.seq (.region [⟨.assign .asis (.c (.int .u64 0)), (some 5), none⟩])
  (.seq (.seq (.region [⟨.move (.v 0), none, none⟩,
    ⟨.len false (.t 0), none, none⟩,
    ⟨.bin .sub (.t 1) (.c (.int .i64 1)), none, none⟩,
    ⟨.assign .asis (.t 2), (some 6), none⟩])
  (.block 0 (.loop [0, 1, 4, 5, 6]
   (.seq (.seq (.region [⟨.move (.v 6), none, none⟩,
     ⟨.bin .geq (.t 0) (.c (.int .i64 0)), none, none⟩])
   (.cond (.t 1)
    .skip
    (.exit 0)))
   (.seq (.block 1 (.seq (.region [⟨.move (.v 5), none, none⟩,
     ⟨.bin .shl (.t 0) (.c (.int .u64 32)), none, none⟩,
     ⟨.move (.v 0), none, none⟩,
     ⟨.move (.v 6), none, none⟩,
     ⟨.indexAddr 1 (.t 2) (.t 3), none, none⟩,
     ⟨.load .asis false 1 (.t 4), none, none⟩,
     ⟨.conv .u64 (.t 5), none, none⟩,
     ⟨.bin .or (.t 1) (.t 6), none, none⟩,
     ⟨.assign .asis (.t 7), (some 5), none⟩])
   (.seq (.region [⟨.move (.v 4), none, none⟩,
     ⟨.move (.v 6), none, none⟩,
     ⟨.move (.v 5), none, none⟩,
     ⟨.move (.v 1), none, none⟩,
     ⟨.conv .u64 (.t 3), none, none⟩,
     ⟨.bin .quo (.t 2) (.t 4), none, none⟩,
     ⟨.conv .u32 (.t 5), none, none⟩,
     ⟨.indexAddr 1 (.t 0) (.t 1), none, none⟩,
     ⟨.store true 1 (.t 7) (.t 6), none, none⟩])
   (.region [⟨.move (.v 5), none, none⟩,
     ⟨.move (.v 1), none, none⟩,
     ⟨.conv .u64 (.t 1), none, none⟩,
     ⟨.bin .rem (.t 0) (.t 2), none, none⟩,
     ⟨.assign .asis (.t 3), (some 5), none⟩]))))
   (.region [⟨.move (.v 6), none, none⟩,
     ⟨.bin .sub (.t 0) (.c (.int .i64 1)), none, none⟩,
     ⟨.assign .asis (.t 1), (some 6), none⟩]))))))
  (.seq (.region [⟨.move (.v 4), none, none⟩,
    ⟨.call 7 [.own] .own [(.t 0)], none, none⟩,
    ⟨.move (.v 5), none, none⟩,
    ⟨.conv .u32 (.t 2), none, none⟩,
    ⟨.assign .own (.t 1), (some 2), none⟩,
    ⟨.assign .own (.t 3), (some 3), none⟩])
  .ret)))))⟩

/-- credence/bignat.DivMod -/
def f23 : AFn := ⟨2, [0, 1, 4, 5, 6, 7, 8, 9, 10], [.v 2, .v 3, .v 4],
  (.seq (.region [⟨.assign .asis (.c (.slice true 1 0 [])), (some 2), none⟩,
    ⟨.assign .asis (.c (.slice true 1 0 [])), (some 3), none⟩,
    ⟨.assign .asis (.c (.bool false)), (some 4), none⟩])
  (.seq (.region [⟨.move (.v 0), none, none⟩,
    ⟨.call 7 [.asis] .share [(.t 0)], none, none⟩,
    ⟨.move (.v 1), none, none⟩,
    ⟨.call 7 [.asis] .share [(.t 2)], none, none⟩,
    ⟨.assign .asis (.t 1), (some 0), none⟩,
    ⟨.assign .asis (.t 3), (some 1), none⟩])
  (.seq (.block 0 (.seq (.region [⟨.move (.v 1), none, none⟩,
    ⟨.len false (.t 0), none, none⟩,
    ⟨.bin .eql (.t 1) (.c (.int .i64 0)), none, none⟩,
    ⟨.assign .asis (.t 2), none, none⟩])
  (.cond (.t 3)
   (.seq (.region [⟨.assign .asis (.c (.slice true 1 0 [])), (some 2), none⟩,
     ⟨.assign .asis (.c (.slice true 1 0 [])), (some 3), none⟩,
     ⟨.assign .asis (.c (.bool false)), (some 4), none⟩])
   .ret)
   (.seq (.region [⟨.move (.v 0), none, none⟩,
     ⟨.move (.v 1), none, none⟩,
     ⟨.call 13 [.asis, .asis] .share [(.t 0), (.t 1)], none, none⟩,
     ⟨.bin .lss (.t 2) (.c (.int .i64 0)), none, none⟩,
     ⟨.assign .asis (.t 3), none, none⟩])
   (.cond (.t 4)
    (.seq (.region [⟨.move (.v 0), none, none⟩,
      ⟨.call 18 [.asis] .own [(.t 0)], none, none⟩,
      ⟨.assign .asis (.c (.slice true 1 0 [])), (some 2), none⟩,
      ⟨.assign .own (.t 1), (some 3), none⟩,
      ⟨.assign .asis (.c (.bool true)), (some 4), none⟩])
    .ret)
    (.seq (.region [⟨.move (.v 1), none, none⟩,
      ⟨.len false (.t 0), none, none⟩,
      ⟨.bin .eql (.t 1) (.c (.int .i64 1)), none, none⟩,
      ⟨.assign .asis (.t 2), none, none⟩])
    (.cond (.t 3)
     (.seq (.region [⟨.move (.v 0), none, none⟩,
       ⟨.move (.v 1), none, none⟩,
       ⟨.indexAddr 1 (.t 1) (.c (.int .i64 0)), none, none⟩,
       ⟨.load .asis false 1 (.t 2), none, none⟩,
       ⟨.call 24 [.asis, .asis] .own [(.t 0), (.t 3)], none, none⟩,
       ⟨.move (.t 4), none, none⟩,
       ⟨.extract 0 (.t 5), none, none⟩,
       ⟨.extract 1 (.t 5), none, none⟩,
       ⟨.assign .own (.t 6), (some 5), none⟩,
       ⟨.assign .asis (.t 7), (some 6), none⟩])
     (.seq (.region [⟨.move (.v 5), none, none⟩,
       ⟨.move (.v 6), none, none⟩,
       ⟨.conv .u64 (.t 1), none, none⟩,
       ⟨.call 22 [.asis] .own [(.t 2)], none, none⟩,
       ⟨.assign .own (.t 0), (some 2), none⟩,
       ⟨.assign .own (.t 3), (some 3), none⟩,
       ⟨.assign .asis (.c (.bool true)), (some 4), none⟩])
     .ret))
     .skip)))))))
  (.seq (.region [⟨.move (.v 0), none, none⟩,
    ⟨.move (.v 1), none, none⟩,
    ⟨.call 25 [.asis, .asis] .own [(.t 0), (.t 1)], none, none⟩,
    ⟨.move (.t 2), none, none⟩,
    ⟨.extract 0 (.t 3), none, none⟩,
    ⟨.extract 1 (.t 3), none, none⟩,
    ⟨.assign .own (.t 4), (some 7), none⟩,
    ⟨.assign .own (.t 5), (some 8), none⟩])
  (.seq (.region [⟨.move (.v 7), none, none⟩,
    ⟨.move (.v 8), none, none⟩,
    ⟨.assign .own (.t 0), (some 2), none⟩,
    ⟨.assign .own (.t 1), (some 3), none⟩,
    ⟨.assign .asis (.c (.bool true)), (some 4), none⟩])
  .ret)))))⟩

/-- credence/bignat.FromUint64 -/
def f22 : AFn := ⟨1, [0, 2], [.v 1],
  (.seq (.region [⟨.assign .asis (.c (.slice true 1 0 [])), (some 1), none⟩])
  (.seq (.block 0 (.seq (.region [⟨.move (.v 0), none, none⟩,
    ⟨.bin .eql (.t 0) (.c (.int .u64 0)), none, none⟩,
    ⟨.assign .asis (.t 1), none, none⟩])
  (.cond (.t 2)
   (.seq (.region [⟨.assign .asis (.c (.slice true 1 0 [])), (some 1), none⟩])
   .ret)
   (.seq (.region [⟨.move (.v 0), none, none⟩,
     ⟨.bin .shr (.t 0) (.c (.int .u64 32)), none, none⟩,
     ⟨.bin .eql (.t 1) (.c (.int .u64 0)), none, none⟩,
     ⟨.assign .asis (.t 2), none, none⟩])
   (.cond (.t 3)
    (.seq (.region [⟨.move (.v 0), none, none⟩,
      ⟨.conv .u32 (.t 0), none, none⟩,
      ⟨.buildSlice .own [(.int .u32 0)] 1 [(0, (.t 1))], none, none⟩,
      ⟨.assign .own (.t 2), (some 1), none⟩])
    .ret)
    .skip)))))
  (.seq (.region [⟨.move (.v 0), none, none⟩,
    ⟨.conv .u32 (.t 0), none, none⟩,
    ⟨.move (.v 0), none, none⟩,
    ⟨.bin .shr (.t 2) (.c (.int .u64 32)), none, none⟩,
    ⟨.conv .u32 (.t 3), none, none⟩,
    ⟨.buildSlice .own [(.int .u32 0)] 2 [(0, (.t 1)), (1, (.t 4))], none, none⟩,
    ⟨.assign .own (.t 5), (some 1), none⟩])
  .ret)))⟩

/-- credence/bignat.Uint64 -/
def f21 : AFn := ⟨1, [0, 2, 3, 4, 5, 6, 12, 13, 14], [.v 1, .v 2],
  (.seq (.region [⟨.assign .asis (.c (.int .u64 0)), (some 1), none⟩,
    ⟨.assign .asis (.c (.bool false)), (some 2), none⟩])
  (.seq (.region [⟨.move (.v 0), none, none⟩,
    ⟨.call 7 [.asis] .share [(.t 0)], none, none⟩,
    ⟨.assign .asis (.t 1), (some 0), none⟩])
  (.seq (.seq (.region [⟨.move (.v 0), none, none⟩,
    ⟨.len false (.t 0), none, none⟩,
    ⟨.bin .gtr (.t 1) (.c (.int .i64 2)), none, none⟩])
  (.cond (.t 2)
   (.seq (.region [⟨.assign .asis (.c (.int .u64 0)), (some 1), none⟩,
     ⟨.assign .asis (.c (.bool false)), (some 2), none⟩])
   .ret)
   .skip))
  (.seq (.region [⟨.assign .asis (.c (.int .u64 0)), (some 3), none⟩])
  (.seq (.seq (.region [⟨.assign .asis (.v 0), (some 6), none⟩,
    ⟨.len false (.v 6), (some 7), none⟩,
    ⟨.assign .asis (.c (.int .i64 0)), (some 8), none⟩])
  (.block 0 (.loop [3, 6, 7, 8]
   (.seq (.region [⟨.bin .lss (.v 8) (.v 7), none, none⟩])
   (.seq (.cond (.t 0)
    .skip
    (.exit 0))
   (.seq (.block 1 (.seq (.region [⟨.move (.v 8), none, none⟩,
     ⟨.indexAddr 1 (.v 6) (.v 8), none, none⟩,
     ⟨.load .asis false 1 (.t 1), none, none⟩,
     ⟨.assign .asis (.t 0), (some 4), none⟩,
     ⟨.assign .asis (.t 2), (some 5), none⟩])
   (.region [⟨.move (.v 3), none, none⟩,
     ⟨.move (.v 5), none, none⟩,
     ⟨.conv .u64 (.t 1), none, none⟩,
     ⟨.move (.v 4), none, none⟩,
     ⟨.bin .mul (.c (.int .i64 32)) (.t 3), none, none⟩,
     ⟨.bin .shl (.t 2) (.t 4), none, none⟩,
     ⟨.bin .or (.t 0) (.t 5), none, none⟩,
     ⟨.assign .own (.t 6), (some 3), none⟩])))
   (.region [⟨.bin .add (.v 8) (.c (.int .i64 1)), none, none⟩,
     ⟨.assign .asis (.t 0), (some 8), none⟩])))))))
  (.seq (.region [⟨.move (.v 3), none, none⟩,
    ⟨.assign .own (.t 0), (some 1), none⟩,
    ⟨.assign .asis (.c (.bool true)), (some 2), none⟩])
  .ret))))))⟩

/-- credence/bignat.gcdSmall -/
def f20 : AFn := ⟨2, [0, 1, 4, 5, 7], [.v 2],
  (.seq (.region [⟨.assign .asis (.c (.slice true 1 0 [])), (some 2), none⟩])
  (.seq (.region [⟨.move (.v 0), none, none⟩,
    ⟨.call 21 [.asis] .share [(.t 0)], none, none⟩,
    ⟨.move (.t 1), none, none⟩,
    ⟨.extract 0 (.t 2), none, none⟩,
    ⟨.extract 1 (.t 2), none, none⟩,
    ⟨.assign .asis (.t 3), (some 3), none⟩,
    ⟨.assign .asis (.t 4), none, none⟩])
  (.seq (.region [⟨.move (.v 1), none, none⟩,
    ⟨.call 21 [.asis] .share [(.t 0)], none, none⟩,
    ⟨.move (.t 1), none, none⟩,
    ⟨.extract 0 (.t 2), none, none⟩,
    ⟨.extract 1 (.t 2), none, none⟩,
    ⟨.assign .asis (.t 3), (some 4), none⟩,
    ⟨.assign .asis (.t 4), none, none⟩])
  (.seq (.block 0 (.loop [3, 4]
   (.seq (.seq (.region [⟨.move (.v 4), none, none⟩,
     ⟨.bin .neq (.t 0) (.c (.int .u64 0)), none, none⟩])
   (.cond (.t 1)
    .skip
    (.exit 0)))
   (.block 1 (.draw [⟨.move (.v 4), none, none⟩,
     ⟨.move (.v 3), none, none⟩,
     ⟨.move (.v 4), none, none⟩,
     ⟨.bin .rem (.t 1) (.t 2), none, none⟩,
     ⟨.assign .asis (.t 0), (some 3), none⟩,
     ⟨.assign .asis (.t 3), (some 4), none⟩] [] [0, 0, 0, 0, 0, 0])))))
  (.seq (.region [⟨.move (.v 3), none, none⟩,
    ⟨.call 22 [.asis] .own [(.t 0)], none, none⟩,
    ⟨.assign .own (.t 1), (some 2), none⟩])
  .ret)))))⟩

/-- credence/bignat.GCD -/
def f19 : AFn := ⟨2, [0, 1, 4, 6], [.v 2],
  (.seq (.region [⟨.assign .asis (.c (.slice true 1 0 [])), (some 2), none⟩])
  (.seq (.region [⟨.move (.v 0), none, none⟩,
    ⟨.call 18 [.lend] .own [(.t 0)], none, none⟩,
    ⟨.move (.v 1), none, none⟩,
    ⟨.call 18 [.lend] .own [(.t 2)], none, none⟩,
    ⟨.assign .own (.t 1), (some 0), none⟩,
    ⟨.assign .own (.t 3), (some 1), none⟩])
  (.seq (.block 0 (.loop [0, 1]
   (.seq (.seq (.region [⟨.move (.v 1), none, none⟩,
     ⟨.len false (.t 0), none, none⟩,
     ⟨.bin .gtr (.t 1) (.c (.int .i64 0)), none, none⟩])
   (.cond (.t 2)
    .skip
    (.exit 0)))
   (.block 1 (.seq (.seq (.region [⟨.move (.v 0), none, none⟩,
     ⟨.len false (.t 0), none, none⟩,
     ⟨.bin .leq (.t 1) (.c (.int .i64 2)), none, none⟩,
     ⟨.move (.t 2), none, none⟩,
     ⟨.move (.v 1), none, (some (3, true))⟩,
     ⟨.len false (.t 4), none, (some (3, true))⟩,
     ⟨.bin .leq (.t 5) (.c (.int .i64 2)), none, (some (3, true))⟩,
     ⟨.pick (.t 3) (.t 6) (.c (.bool false)), none, none⟩])
   (.cond (.t 7)
    (.seq (.region [⟨.move (.v 0), none, none⟩,
      ⟨.move (.v 1), none, none⟩,
      ⟨.call 20 [.lend, .lend] .own [(.t 0), (.t 1)], none, none⟩,
      ⟨.assign .own (.t 2), (some 2), none⟩])
    .ret)
    .skip))
   (.seq (.region [⟨.move (.v 0), none, none⟩,
     ⟨.move (.v 1), none, none⟩,
     ⟨.call 23 [.lend, .lend] .own [(.t 0), (.t 1)], none, none⟩,
     ⟨.move (.t 2), none, none⟩,
     ⟨.extract 0 (.t 3), none, none⟩,
     ⟨.extract 1 (.t 3), none, none⟩,
     ⟨.extract 2 (.t 3), none, none⟩,
     ⟨.assign .share (.t 4), none, none⟩,
     ⟨.assign .own (.t 5), (some 3), none⟩,
     ⟨.assign .asis (.t 6), none, none⟩])
   (.region [⟨.move (.v 1), none, none⟩,
     ⟨.move (.v 3), none, none⟩,
     ⟨.assign .own (.t 0), (some 0), none⟩,
     ⟨.assign .own (.t 1), (some 1), none⟩])))))))
  (.seq (.region [⟨.move (.v 0), none, none⟩,
    ⟨.assign .own (.t 0), (some 2), none⟩])
  .ret))))⟩

/-- credence/bignat.clone -/
def f18 : AFn := ⟨1, [0, 2], [.v 1],
  (.seq (.region [⟨.assign .asis (.c (.slice true 1 0 [])), (some 1), none⟩])
  (.seq (.region [⟨.move (.v 0), none, none⟩,
    ⟨.call 7 [.share] .own [(.t 0)], none, none⟩,
    ⟨.assign .own (.t 1), (some 0), none⟩])
  (.seq (.seq (.region [⟨.move (.v 0), none, none⟩,
    ⟨.len false (.t 0), none, none⟩,
    ⟨.bin .eql (.t 1) (.c (.int .i64 0)), none, none⟩])
  (.cond (.t 2)
   (.seq (.region [⟨.assign .asis (.c (.slice true 1 0 [])), (some 1), none⟩])
   .ret)
   .skip))
  (.seq (.region [⟨.move (.v 0), none, none⟩,
    ⟨.append true 1 4 false (.c (.slice true 1 0 [])) (.t 0), none, none⟩,
    ⟨.assign .own (.t 1), (some 1), none⟩])
  .ret))))⟩

/-- credence/bignat.Normalize -/
def f17 : AFn := ⟨1, [0, 2], [.v 1],
  (.seq (.region [⟨.assign .asis (.c (.slice true 1 0 [])), (some 1), none⟩])
  (.seq (.region [⟨.move (.v 0), none, none⟩,
    ⟨.call 18 [.asis] .own [(.t 0)], none, none⟩,
    ⟨.assign .own (.t 1), (some 1), none⟩])
  .ret))⟩

/-- credence/rational.reduce -/
def f16 : AFn := ⟨3, [0, 1, 2, 6, 7], [.cell 3 true 3],
  (.seq (.region [⟨.alloc [(.bool false), (.slice true 1 0 []), (.slice true 1 0 [])], (some 3), none⟩])
  (.seq (.region [⟨.move (.v 1), none, none⟩,
    ⟨.call 17 [.lend] .own [(.t 0)], none, none⟩,
    ⟨.move (.v 2), none, none⟩,
    ⟨.call 17 [.lend] .own [(.t 2)], none, none⟩,
    ⟨.assign .own (.t 1), (some 1), none⟩,
    ⟨.assign .own (.t 3), (some 2), none⟩])
  (.seq (.seq (.region [⟨.move (.v 1), none, none⟩,
    ⟨.len false (.t 0), none, none⟩,
    ⟨.bin .eql (.t 1) (.c (.int .i64 0)), none, none⟩,
    ⟨.move (.t 2), none, none⟩,
    ⟨.move (.v 2), none, (some (3, false))⟩,
    ⟨.len false (.t 4), none, (some (3, false))⟩,
    ⟨.bin .eql (.t 5) (.c (.int .i64 0)), none, (some (3, false))⟩,
    ⟨.pick (.t 3) (.c (.bool true)) (.t 6), none, none⟩])
  (.cond (.t 7)
   (.seq (.region [⟨.call 9 [] .own [], none, none⟩,
     ⟨.build [(.bool false), (.slice true 1 0 []), (.slice true 1 0 [])] [(2, 1, (.t 0))], none, none⟩,
     ⟨.store false 3 (.v 3) (.t 1), none, none⟩])
   .ret)
   .skip))
  (.seq (.seq (.region [⟨.move (.v 2), none, none⟩,
    ⟨.len false (.t 0), none, none⟩,
    ⟨.bin .gtr (.t 1) (.c (.int .i64 1)), none, none⟩,
    ⟨.move (.t 2), none, none⟩,
    ⟨.move (.v 2), none, (some (3, false))⟩,
    ⟨.indexAddr 1 (.t 4) (.c (.int .i64 0)), none, (some (3, false))⟩,
    ⟨.load .asis false 1 (.t 5), none, (some (3, false))⟩,
    ⟨.bin .neq (.t 6) (.c (.int .u32 1)), none, (some (3, false))⟩,
    ⟨.pick (.t 3) (.c (.bool true)) (.t 7), none, none⟩])
  (.cond (.t 8)
   (.seq (.region [⟨.move (.v 1), none, none⟩,
     ⟨.move (.v 2), none, none⟩,
     ⟨.call 19 [.lend, .lend] .share [(.t 0), (.t 1)], none, none⟩,
     ⟨.assign .asis (.t 2), (some 4), none⟩])
   (.seq (.region [⟨.move (.v 4), none, none⟩,
     ⟨.len false (.t 0), none, none⟩,
     ⟨.bin .gtr (.t 1) (.c (.int .i64 1)), none, none⟩,
     ⟨.move (.t 2), none, none⟩,
     ⟨.move (.v 4), none, (some (3, false))⟩,
     ⟨.indexAddr 1 (.t 4) (.c (.int .i64 0)), none, (some (3, false))⟩,
     ⟨.load .asis false 1 (.t 5), none, (some (3, false))⟩,
     ⟨.bin .neq (.t 6) (.c (.int .u32 1)), none, (some (3, false))⟩,
     ⟨.pick (.t 3) (.c (.bool true)) (.t 7), none, none⟩])
   (.cond (.t 8)
    (.seq (.region [⟨.move (.v 1), none, none⟩,
      ⟨.move (.v 4), none, none⟩,
      ⟨.call 23 [.lend, .asis] .own [(.t 0), (.t 1)], none, none⟩,
      ⟨.move (.t 2), none, none⟩,
      ⟨.extract 0 (.t 3), none, none⟩,
      ⟨.extract 1 (.t 3), none, none⟩,
      ⟨.extract 2 (.t 3), none, none⟩,
      ⟨.assign .own (.t 4), (some 1), none⟩])
    (.region [⟨.move (.v 2), none, none⟩,
      ⟨.move (.v 4), none, none⟩,
      ⟨.call 23 [.lend, .asis] .own [(.t 0), (.t 1)], none, none⟩,
      ⟨.move (.t 2), none, none⟩,
      ⟨.extract 0 (.t 3), none, none⟩,
      ⟨.extract 1 (.t 3), none, none⟩,
      ⟨.extract 2 (.t 3), none, none⟩,
      ⟨.assign .own (.t 4), (some 2), none⟩]))
    .skip)))
   .skip))
  (.seq (.region [⟨.move (.v 0), none, none⟩,
    ⟨.move (.v 1), none, none⟩,
    ⟨.move (.v 2), none, none⟩,
    ⟨.build [(.bool false), (.slice true 1 0 []), (.slice true 1 0 [])] [(0, 1, (.t 0)), (1, 1, (.t 1)), (2, 1, (.t 2))], none, none⟩,
    ⟨.store false 3 (.v 3) (.t 3), none, none⟩])
  .ret)))))⟩

/-- credence/bignat.Add -/
def f15 : AFn := ⟨2, [0, 1, 4, 5, 6, 7, 24, 25], [.v 2],
  (.seq (.region [⟨.assign .asis (.c (.slice true 1 0 [])), (some 2), none⟩])
  (.seq (.region [⟨.move (.v 0), none, none⟩,
    ⟨.call 7 [.asis] .share [(.t 0)], none, none⟩,
    ⟨.move (.v 1), none, none⟩,
    ⟨.call 7 [.asis] .share [(.t 2)], none, none⟩,
    ⟨.assign .asis (.t 1), (some 0), none⟩,
    ⟨.assign .asis (.t 3), (some 1), none⟩])
  (.seq (.seq (.region [⟨.move (.v 0), none, none⟩,
    ⟨.len false (.t 0), none, none⟩,
    ⟨.move (.v 1), none, none⟩,
    ⟨.len false (.t 2), none, none⟩,
    ⟨.bin .lss (.t 1) (.t 3), none, none⟩])
  (.cond (.t 4)
   (.region [⟨.move (.v 1), none, none⟩,
     ⟨.move (.v 0), none, none⟩,
     ⟨.assign .asis (.t 0), (some 0), none⟩,
     ⟨.assign .asis (.t 1), (some 1), none⟩])
   .skip))
  (.seq (.region [⟨.move (.v 0), none, none⟩,
    ⟨.len false (.t 0), none, none⟩,
    ⟨.bin .add (.t 1) (.c (.int .i64 1)), none, none⟩,
    ⟨.makeSlice .own [(.int .u32 0)] 4 (.t 2) (.t 2), none, none⟩,
    ⟨.assign .own (.t 3), (some 3), none⟩])
  (.seq (.region [⟨.assign .asis (.c (.int .u64 0)), (some 4), none⟩])
  (.seq (.seq (.region [⟨.move (.v 0), none, none⟩,
    ⟨.len false (.t 0), (some 6), none⟩,
    ⟨.assign .asis (.c (.int .i64 0)), (some 7), none⟩])
  (.block 0 (.loop [0, 1, 3, 4, 6, 7]
   (.seq (.region [⟨.bin .lss (.v 7) (.v 6), none, none⟩])
   (.seq (.cond (.t 0)
    .skip
    (.exit 0))
   (.seq (.block 1 (.seq (.region [⟨.move (.v 7), none, none⟩,
     ⟨.assign .asis (.t 0), (some 5), none⟩])
   (.seq (.region [⟨.move (.v 4), none, none⟩,
     ⟨.move (.v 0), none, none⟩,
     ⟨.move (.v 5), none, none⟩,
     ⟨.indexAddr 1 (.t 1) (.t 2), none, none⟩,
     ⟨.load .asis false 1 (.t 3), none, none⟩,
     ⟨.conv .u64 (.t 4), none, none⟩,
     ⟨.bin .add (.t 0) (.t 5), none, none⟩,
     ⟨.assign .asis (.t 6), (some 4), none⟩])
   (.seq (.seq (.region [⟨.move (.v 5), none, none⟩,
     ⟨.move (.v 1), none, none⟩,
     ⟨.len false (.t 1), none, none⟩,
     ⟨.bin .lss (.t 0) (.t 2), none, none⟩])
   (.cond (.t 3)
    (.region [⟨.move (.v 4), none, none⟩,
      ⟨.move (.v 1), none, none⟩,
      ⟨.move (.v 5), none, none⟩,
      ⟨.indexAddr 1 (.t 1) (.t 2), none, none⟩,
      ⟨.load .asis false 1 (.t 3), none, none⟩,
      ⟨.conv .u64 (.t 4), none, none⟩,
      ⟨.bin .add (.t 0) (.t 5), none, none⟩,
      ⟨.assign .asis (.t 6), (some 4), none⟩])
    .skip))
   (.seq (.region [⟨.move (.v 3), none, none⟩,
     ⟨.move (.v 5), none, none⟩,
     ⟨.move (.v 4), none, none⟩,
     ⟨.conv .u32 (.t 2), none, none⟩,
     ⟨.indexAddr 1 (.t 0) (.t 1), none, none⟩,
     ⟨.store true 1 (.t 4) (.t 3), none, none⟩])
   (.region [⟨.move (.v 4), none, none⟩,
     ⟨.bin .shr (.t 0) (.c (.int .u64 32)), none, none⟩,
     ⟨.assign .asis (.t 1), (some 4), none⟩]))))))
   (.region [⟨.bin .add (.v 7) (.c (.int .i64 1)), none, none⟩,
     ⟨.assign .asis (.t 0), (some 7), none⟩])))))))
  (.seq (.region [⟨.move (.v 3), none, none⟩,
    ⟨.move (.v 0), none, none⟩,
    ⟨.len false (.t 1), none, none⟩,
    ⟨.move (.v 4), none, none⟩,
    ⟨.conv .u32 (.t 3), none, none⟩,
    ⟨.indexAddr 1 (.t 0) (.t 2), none, none⟩,
    ⟨.store true 1 (.t 5) (.t 4), none, none⟩])
  (.seq (.region [⟨.move (.v 3), none, none⟩,
    ⟨.call 7 [.own] .own [(.t 0)], none, none⟩,
    ⟨.assign .own (.t 1), (some 2), none⟩])
  .ret))))))))⟩

/-- credence/bignat.Mul -/
def f14 : AFn := ⟨2, [0, 1, 4, 5, 6, 7, 8, 9, 10, 29, 30, 31, 36, 37, 38], [.v 2],
  (.seq (.region [⟨.assign .asis (.c (.slice true 1 0 [])), (some 2), none⟩])
  (.seq (.region [⟨.move (.v 0), none, none⟩,
    ⟨.call 7 [.asis] .share [(.t 0)], none, none⟩,
    ⟨.move (.v 1), none, none⟩,
    ⟨.call 7 [.asis] .share [(.t 2)], none, none⟩,
    ⟨.assign .asis (.t 1), (some 0), none⟩,
    ⟨.assign .asis (.t 3), (some 1), none⟩])
  (.seq (.seq (.region [⟨.move (.v 0), none, none⟩,
    ⟨.len false (.t 0), none, none⟩,
    ⟨.bin .eql (.t 1) (.c (.int .i64 0)), none, none⟩,
    ⟨.move (.t 2), none, none⟩,
    ⟨.move (.v 1), none, (some (3, false))⟩,
    ⟨.len false (.t 4), none, (some (3, false))⟩,
    ⟨.bin .eql (.t 5) (.c (.int .i64 0)), none, (some (3, false))⟩,
    ⟨.pick (.t 3) (.c (.bool true)) (.t 6), none, none⟩])
  (.cond (.t 7)
   (.seq (.region [⟨.assign .asis (.c (.slice true 1 0 [])), (some 2), none⟩])
   .ret)
   .skip))
  (.seq (.region [⟨.move (.v 0), none, none⟩,
    ⟨.len false (.t 0), none, none⟩,
    ⟨.move (.v 1), none, none⟩,
    ⟨.len false (.t 2), none, none⟩,
    ⟨.bin .add (.t 1) (.t 3), none, none⟩,
    ⟨.makeSlice .own [(.int .u32 0)] 4 (.t 4) (.t 4), none, none⟩,
    ⟨.assign .own (.t 5), (some 3), none⟩])
  (.seq (.seq (.region [⟨.assign .asis (.v 0), (some 9), none⟩,
    ⟨.len false (.v 9), (some 10), none⟩,
    ⟨.assign .asis (.c (.int .i64 0)), (some 11), none⟩])
  (.block 0 (.loop [1, 3, 9, 10, 11]
   (.seq (.region [⟨.bin .lss (.v 11) (.v 10), none, none⟩])
   (.seq (.cond (.t 0)
    .skip
    (.exit 0))
   (.seq (.block 1 (.seq (.region [⟨.move (.v 11), none, none⟩,
     ⟨.indexAddr 1 (.v 9) (.v 11), none, none⟩,
     ⟨.load .asis false 1 (.t 1), none, none⟩,
     ⟨.assign .asis (.t 0), (some 4), none⟩,
     ⟨.assign .asis (.t 2), (some 5), none⟩])
   (.seq (.region [⟨.assign .asis (.c (.int .u64 0)), (some 6), none⟩])
   (.seq (.seq (.region [⟨.assign .asis (.v 1), (some 12), none⟩,
     ⟨.len false (.v 12), (some 13), none⟩,
     ⟨.assign .asis (.c (.int .i64 0)), (some 14), none⟩])
   (.block 2 (.loop [1, 3, 4, 5, 6, 9, 10, 11, 12, 13, 14]
    (.seq (.region [⟨.bin .lss (.v 14) (.v 13), none, none⟩])
    (.seq (.cond (.t 0)
     .skip
     (.exit 2))
    (.seq (.block 3 (.seq (.region [⟨.move (.v 14), none, none⟩,
      ⟨.indexAddr 1 (.v 12) (.v 14), none, none⟩,
      ⟨.load .asis false 1 (.t 1), none, none⟩,
      ⟨.assign .asis (.t 0), (some 7), none⟩,
      ⟨.assign .asis (.t 2), (some 8), none⟩])
    (.seq (.region [⟨.move (.v 6), none, none⟩,
      ⟨.move (.v 5), none, none⟩,
      ⟨.conv .u64 (.t 1), none, none⟩,
      ⟨.move (.v 8), none, none⟩,
      ⟨.conv .u64 (.t 3), none, none⟩,
      ⟨.bin .mul (.t 2) (.t 4), none, none⟩,
      ⟨.move (.v 3), none, none⟩,
      ⟨.move (.v 4), none, none⟩,
      ⟨.move (.v 7), none, none⟩,
      ⟨.bin .add (.t 7) (.t 8), none, none⟩,
      ⟨.indexAddr 1 (.t 6) (.t 9), none, none⟩,
      ⟨.load .asis false 1 (.t 10), none, none⟩,
      ⟨.conv .u64 (.t 11), none, none⟩,
      ⟨.bin .add (.t 5) (.t 12), none, none⟩,
      ⟨.bin .add (.t 0) (.t 13), none, none⟩,
      ⟨.assign .asis (.t 14), (some 6), none⟩])
    (.seq (.region [⟨.move (.v 3), none, none⟩,
      ⟨.move (.v 4), none, none⟩,
      ⟨.move (.v 7), none, none⟩,
      ⟨.bin .add (.t 1) (.t 2), none, none⟩,
      ⟨.move (.v 6), none, none⟩,
      ⟨.conv .u32 (.t 4), none, none⟩,
      ⟨.indexAddr 1 (.t 0) (.t 3), none, none⟩,
      ⟨.store true 1 (.t 6) (.t 5), none, none⟩])
    (.region [⟨.move (.v 6), none, none⟩,
      ⟨.bin .shr (.t 0) (.c (.int .u64 32)), none, none⟩,
      ⟨.assign .asis (.t 1), (some 6), none⟩])))))
    (.region [⟨.bin .add (.v 14) (.c (.int .i64 1)), none, none⟩,
      ⟨.assign .asis (.t 0), (some 14), none⟩])))))))
   (.region [⟨.move (.v 3), none, none⟩,
     ⟨.move (.v 4), none, none⟩,
     ⟨.move (.v 1), none, none⟩,
     ⟨.len false (.t 2), none, none⟩,
     ⟨.bin .add (.t 1) (.t 3), none, none⟩,
     ⟨.move (.v 6), none, none⟩,
     ⟨.conv .u32 (.t 5), none, none⟩,
     ⟨.indexAddr 1 (.t 0) (.t 4), none, none⟩,
     ⟨.store true 1 (.t 7) (.t 6), none, none⟩])))))
   (.region [⟨.bin .add (.v 11) (.c (.int .i64 1)), none, none⟩,
     ⟨.assign .asis (.t 0), (some 11), none⟩])))))))
  (.seq (.region [⟨.move (.v 3), none, none⟩,
    ⟨.call 7 [.own] .own [(.t 0)], none, none⟩,
    ⟨.assign .own (.t 1), (some 2), none⟩])
  .ret))))))⟩

/-- credence/bignat.Cmp -/
def f13 : AFn := ⟨2, [0, 1, 4, 5], [.v 2],
  (.seq (.region [⟨.assign .asis (.c (.int .i64 0)), (some 2), none⟩])
  (.seq (.region [⟨.move (.v 0), none, none⟩,
    ⟨.call 7 [.asis] .share [(.t 0)], none, none⟩,
    ⟨.move (.v 1), none, none⟩,
    ⟨.call 7 [.asis] .share [(.t 2)], none, none⟩,
    ⟨.assign .asis (.t 1), (some 0), none⟩,
    ⟨.assign .asis (.t 3), (some 1), none⟩])
  (.seq (.block 0 (.seq (.region [⟨.move (.v 0), none, none⟩,
    ⟨.len false (.t 0), none, none⟩,
    ⟨.move (.v 1), none, none⟩,
    ⟨.len false (.t 2), none, none⟩,
    ⟨.bin .lss (.t 1) (.t 3), none, none⟩,
    ⟨.assign .asis (.t 4), none, none⟩])
  (.cond (.t 5)
   (.seq (.region [⟨.assign .asis (.c (.int .i64 (-1))), (some 2), none⟩])
   .ret)
   (.seq (.region [⟨.move (.v 0), none, none⟩,
     ⟨.len false (.t 0), none, none⟩,
     ⟨.move (.v 1), none, none⟩,
     ⟨.len false (.t 2), none, none⟩,
     ⟨.bin .gtr (.t 1) (.t 3), none, none⟩,
     ⟨.assign .asis (.t 4), none, none⟩])
   (.cond (.t 5)
    (.seq (.region [⟨.assign .asis (.c (.int .i64 1)), (some 2), none⟩])
    .ret)
    .skip)))))
  (.seq (.seq (.region [⟨.move (.v 0), none, none⟩,
    ⟨.len false (.t 0), none, none⟩,
    ⟨.bin .sub (.t 1) (.c (.int .i64 1)), none, none⟩,
    ⟨.assign .asis (.t 2), (some 3), none⟩])
  (.block 1 (.loop [0, 1, 3]
   (.seq (.seq (.region [⟨.move (.v 3), none, none⟩,
     ⟨.bin .geq (.t 0) (.c (.int .i64 0)), none, none⟩])
   (.cond (.t 1)
    .skip
    (.exit 1)))
   (.seq (.block 2 (.seq (.draw [⟨.move (.v 0), none, none⟩,
     ⟨.move (.v 3), none, none⟩,
     ⟨.indexAddr 1 (.t 0) (.t 1), none, none⟩,
     ⟨.load .asis false 1 (.t 2), none, none⟩,
     ⟨.move (.v 1), none, none⟩,
     ⟨.move (.v 3), none, none⟩,
     ⟨.indexAddr 1 (.t 4) (.t 5), none, none⟩,
     ⟨.load .asis false 1 (.t 6), none, none⟩,
     ⟨.bin .neq (.t 3) (.t 7), none, none⟩] [] [0, 0, 0, 0, 0, 0, 0, 0, 0])
   (.cond (.t 8)
    (.seq (.seq (.draw [⟨.move (.v 0), none, none⟩,
      ⟨.move (.v 3), none, none⟩,
      ⟨.indexAddr 1 (.t 0) (.t 1), none, none⟩,
      ⟨.load .asis false 1 (.t 2), none, none⟩,
      ⟨.move (.v 1), none, none⟩,
      ⟨.move (.v 3), none, none⟩,
      ⟨.indexAddr 1 (.t 4) (.t 5), none, none⟩,
      ⟨.load .asis false 1 (.t 6), none, none⟩,
      ⟨.bin .lss (.t 3) (.t 7), none, none⟩] [] [0, 0, 0, 0, 0, 0, 0, 0, 0])
    (.cond (.t 8)
     (.seq (.region [⟨.assign .asis (.c (.int .i64 (-1))), (some 2), none⟩])
     .ret)
     .skip))
    (.seq (.region [⟨.assign .asis (.c (.int .i64 1)), (some 2), none⟩])
    .ret))
    .skip)))
   (.region [⟨.move (.v 3), none, none⟩,
     ⟨.bin .sub (.t 0) (.c (.int .i64 1)), none, none⟩,
     ⟨.assign .asis (.t 1), (some 3), none⟩]))))))
  (.seq (.region [⟨.assign .asis (.c (.int .i64 0)), (some 2), none⟩])
  .ret)))))⟩

/-- credence/rational.Add -/
def f12 : AFn := ⟨2, [0, 1, 2, 3, 4, 5, 6, 7, 8, 9, 10, 11, 12, 13, 14, 15, 16], [.cell 4 true 3],
  (.seq (.region [⟨.box (.v 0), (some 2), none⟩,
    ⟨.box (.v 1), (some 3), none⟩,
    ⟨.alloc [(.bool false), (.slice true 1 0 []), (.slice true 1 0 [])], (some 4), none⟩])
  (.seq (.region [⟨.load .own true 3 (.v 2), none, none⟩,
    ⟨.call 5 [.own] .own [(.t 0)], none, none⟩,
    ⟨.move (.t 1), none, none⟩,
    ⟨.extract 0 (.t 2), none, none⟩,
    ⟨.extract 1 (.t 2), none, none⟩,
    ⟨.extract 2 (.t 2), none, none⟩,
    ⟨.assign .own (.t 3), (some 5), none⟩,
    ⟨.assign .share (.t 4), (some 6), none⟩,
    ⟨.assign .share (.t 5), (some 7), none⟩])
  (.seq (.region [⟨.load .own true 3 (.v 3), none, none⟩,
    ⟨.call 5 [.own] .own [(.t 0)], none, none⟩,
    ⟨.move (.t 1), none, none⟩,
    ⟨.extract 0 (.t 2), none, none⟩,
    ⟨.extract 1 (.t 2), none, none⟩,
    ⟨.extract 2 (.t 2), none, none⟩,
    ⟨.assign .own (.t 3), (some 8), none⟩,
    ⟨.assign .share (.t 4), (some 9), none⟩,
    ⟨.assign .share (.t 5), (some 10), none⟩])
  (.seq (.region [⟨.move (.v 6), none, none⟩,
    ⟨.move (.v 9), none, none⟩,
    ⟨.assign .asis (.t 0), (some 11), none⟩,
    ⟨.assign .asis (.t 1), (some 12), none⟩])
  (.seq (.region [⟨.move (.v 7), none, none⟩,
    ⟨.assign .asis (.t 0), (some 13), none⟩])
  (.seq (.seq (.region [⟨.move (.v 7), none, none⟩,
    ⟨.move (.v 10), none, none⟩,
    ⟨.call 13 [.asis, .asis] .share [(.t 0), (.t 1)], none, none⟩,
    ⟨.bin .neq (.t 2) (.c (.int .i64 0)), none, none⟩])
  (.cond (.t 3)
   (.region [⟨.move (.v 6), none, none⟩,
     ⟨.move (.v 10), none, none⟩,
     ⟨.call 14 [.asis, .asis] .share [(.t 0), (.t 1)], none, none⟩,
     ⟨.move (.v 9), none, none⟩,
     ⟨.move (.v 7), none, none⟩,
     ⟨.call 14 [.asis, .asis] .share [(.t 3), (.t 4)], none, none⟩,
     ⟨.move (.v 7), none, none⟩,
     ⟨.move (.v 10), none, none⟩,
     ⟨.call 14 [.asis, .asis] .share [(.t 6), (.t 7)], none, none⟩,
     ⟨.assign .asis (.t 2), (some 11), none⟩,
     ⟨.assign .asis (.t 5), (some 12), none⟩,
     ⟨.assign .asis (.t 8), (some 13), none⟩])
   .skip))
  (.seq (.seq (.region [⟨.move (.v 5), none, none⟩,
    ⟨.move (.v 8), none, none⟩,
    ⟨.eqb false (.t 0) (.t 1), none, none⟩])
  (.cond (.t 2)
   (.seq (.region [⟨.move (.v 5), none, none⟩,
     ⟨.move (.v 11), none, none⟩,
     ⟨.move (.v 12), none, none⟩,
     ⟨.call 15 [.asis, .asis] .share [(.t 1), (.t 2)], none, none⟩,
     ⟨.move (.v 13), none, none⟩,
     ⟨.call 16 [.own, .asis, .asis] .own [(.t 0), (.t 3), (.t 4)], none, none⟩,
     ⟨.store false 3 (.v 4) (.t 5), none, none⟩])
   .ret)
   .skip))
  (.seq (.seq (.region [⟨.move (.v 11), none, none⟩,
    ⟨.move (.v 12), none, none⟩,
    ⟨.call 30 [.asis, .asis] .share [(.t 0), (.t 1)], none, none⟩,
    ⟨.move (.t 2), none, none⟩,
    ⟨.extract 0 (.t 3), none, none⟩,
    ⟨.extract 1 (.t 3), none, none⟩,
    ⟨.assign .asis (.t 4), (some 14), none⟩,
    ⟨.assign .asis (.t 5), (some 15), none⟩])
  (.seq (.region [⟨.move (.v 15), none, none⟩])
  (.cond (.t 0)
   (.seq (.region [⟨.move (.v 5), none, none⟩,
     ⟨.move (.v 14), none, none⟩,
     ⟨.move (.v 13), none, none⟩,
     ⟨.call 16 [.own, .asis, .asis] .own [(.t 0), (.t 1), (.t 2)], none, none⟩,
     ⟨.store false 3 (.v 4) (.t 3), none, none⟩])
   .ret)
   .skip)))
  (.seq (.region [⟨.move (.v 12), none, none⟩,
    ⟨.move (.v 11), none, none⟩,
    ⟨.call 30 [.asis, .asis] .share [(.t 0), (.t 1)], none, none⟩,
    ⟨.move (.t 2), none, none⟩,
    ⟨.extract 0 (.t 3), none, none⟩,
    ⟨.extract 1 (.t 3), none, none⟩,
    ⟨.assign .asis (.t 4), (some 16), none⟩,
    ⟨.assign .asis (.t 5), none, none⟩])
  (.seq (.region [⟨.move (.v 8), none, none⟩,
    ⟨.move (.v 16), none, none⟩,
    ⟨.move (.v 13), none, none⟩,
    ⟨.call 16 [.own, .asis, .asis] .own [(.t 0), (.t 1), (.t 2)], none, none⟩,
    ⟨.store false 3 (.v 4) (.t 3), none, none⟩])
  .ret))))))))))⟩

/-- credence/rational.Sum -/
def f11 : AFn := ⟨1, [0, 2, 3, 5, 8, 9, 10], [.cell 1 true 3],
  (.seq (.region [⟨.alloc [(.bool false), (.slice true 1 0 []), (.slice true 1 0 [])], (some 1), none⟩])
  (.seq (.region [⟨.call 9 [] .own [], none, none⟩,
    ⟨.build [(.bool false), (.slice true 1 0 []), (.slice true 1 0 [])] [(2, 1, (.t 0))], none, none⟩,
    ⟨.alloc [(.bool false), (.slice true 1 0 []), (.slice true 1 0 [])], (some 2), none⟩,
    ⟨.store false 3 (.v 2) (.t 1), none, none⟩])
  (.seq (.seq (.region [⟨.assign .share (.v 0), (some 4), none⟩,
    ⟨.len false (.v 4), (some 5), none⟩,
    ⟨.assign .asis (.c (.int .i64 0)), (some 6), none⟩])
  (.block 0 (.loop [1, 2, 4, 5, 6]
   (.seq (.region [⟨.bin .lss (.v 6) (.v 5), none, none⟩])
   (.seq (.cond (.t 0)
    .skip
    (.exit 0))
   (.seq (.block 1 (.seq (.region [⟨.indexAddr 3 (.v 4) (.v 6), none, none⟩,
     ⟨.load .asis true 3 (.t 0), none, none⟩,
     ⟨.alloc [(.bool false), (.slice true 1 0 []), (.slice true 1 0 [])], (some 3), none⟩,
     ⟨.store false 3 (.v 3) (.t 1), none, none⟩])
   (.region [⟨.load .asis true 3 (.v 2), none, none⟩,
     ⟨.load .own true 3 (.v 3), none, none⟩,
     ⟨.call 12 [.own, .own] .own [(.t 0), (.t 1)], none, none⟩,
     ⟨.store false 3 (.v 2) (.t 2), none, none⟩])))
   (.region [⟨.bin .add (.v 6) (.c (.int .i64 1)), none, none⟩,
     ⟨.assign .asis (.t 0), (some 6), none⟩])))))))
  (.seq (.region [⟨.load .own true 3 (.v 2), none, none⟩,
    ⟨.store false 3 (.v 1) (.t 0), none, none⟩])
  .ret))))⟩

/-- credence/worlds.Remainder -/
def f10 : AFn := ⟨1, [0, 1, 2], [.cell 2 true 3],
  (.seq (.region [⟨.box (.v 0), (some 1), none⟩,
    ⟨.alloc [(.bool false), (.slice true 1 0 []), (.slice true 1 0 [])], (some 2), none⟩])
  (.seq (.region [⟨.fieldAddr 0 (.v 1), none, none⟩,
    ⟨.load .asis false 1 (.t 0), none, none⟩,
    ⟨.call 11 [.share] .share [(.t 1)], none, none⟩,
    ⟨.call 31 [.asis] .own [(.t 2)], none, none⟩,
    ⟨.store false 3 (.v 2) (.t 3), none, none⟩])
  .ret))⟩

/-- credence/rational.one -/
def f9 : AFn := ⟨0, [0], [.v 0],
  (.seq (.region [⟨.assign .asis (.c (.slice true 1 0 [])), (some 0), none⟩])
  (.seq (.region [⟨.buildSlice .own [(.int .u32 0)] 1 [(0, (.c (.int .u32 1)))], none, none⟩,
    ⟨.assign .own (.t 0), (some 0), none⟩])
  .ret))⟩

/-- math/bits.Len32 -/
def f8 : AFn := ⟨1, [0, 2], [.v 1],
  (.seq (.region [⟨.assign .asis (.c (.int .i64 0)), (some 1), none⟩])
  (.seq (.seq (.region [⟨.move (.v 0), none, none⟩,
    ⟨.bin .geq (.t 0) (.c (.int .u32 65536)), none, none⟩])
  (.cond (.t 1)
   (.seq (.region [⟨.move (.v 0), none, none⟩,
     ⟨.bin .shr (.t 0) (.c (.int .u64 16)), none, none⟩,
     ⟨.assign .asis (.t 1), (some 0), none⟩])
   (.region [⟨.assign .asis (.c (.int .i64 16)), (some 1), none⟩]))
   .skip))
  (.seq (.seq (.region [⟨.move (.v 0), none, none⟩,
    ⟨.bin .geq (.t 0) (.c (.int .u32 256)), none, none⟩])
  (.cond (.t 1)
   (.seq (.region [⟨.move (.v 0), none, none⟩,
     ⟨.bin .shr (.t 0) (.c (.int .u64 8)), none, none⟩,
     ⟨.assign .asis (.t 1), (some 0), none⟩])
   (.region [⟨.move (.v 1), none, none⟩,
     ⟨.bin .add (.t 0) (.c (.int .i64 8)), none, none⟩,
     ⟨.assign .own (.t 1), (some 1), none⟩]))
   .skip))
  (.seq (.region [⟨.move (.v 1), none, none⟩,
    ⟨.move (.v 0), none, none⟩,
    ⟨.conv .u8 (.t 1), none, none⟩,
    ⟨.index (.c (.str [0, 1, 2, 2, 3, 3, 3, 3, 4, 4, 4, 4, 4, 4, 4, 4, 5, 5, 5, 5, 5, 5, 5, 5, 5, 5, 5, 5, 5, 5, 5, 5, 6, 6, 6, 6, 6, 6, 6, 6, 6, 6, 6, 6, 6, 6, 6, 6, 6, 6, 6, 6, 6, 6, 6, 6, 6, 6, 6, 6, 6, 6, 6, 6, 7, 7, 7, 7, 7, 7, 7, 7, 7, 7, 7, 7, 7, 7, 7, 7, 7, 7, 7, 7, 7, 7, 7, 7, 7, 7, 7, 7, 7, 7, 7, 7, 7, 7, 7, 7, 7, 7, 7, 7, 7, 7, 7, 7, 7, 7, 7, 7, 7, 7, 7, 7, 7, 7, 7, 7, 7, 7, 7, 7, 7, 7, 7, 7, 8, 8, 8, 8, 8, 8, 8, 8, 8, 8, 8, 8, 8, 8, 8, 8, 8, 8, 8, 8, 8, 8, 8, 8, 8, 8, 8, 8, 8, 8, 8, 8, 8, 8, 8, 8, 8, 8, 8, 8, 8, 8, 8, 8, 8, 8, 8, 8, 8, 8, 8, 8, 8, 8, 8, 8, 8, 8, 8, 8, 8, 8, 8, 8, 8, 8, 8, 8, 8, 8, 8, 8, 8, 8, 8, 8, 8, 8, 8, 8, 8, 8, 8, 8, 8, 8, 8, 8, 8, 8, 8, 8, 8, 8, 8, 8, 8, 8, 8, 8, 8, 8, 8, 8, 8, 8, 8, 8, 8, 8, 8, 8, 8, 8, 8, 8, 8, 8, 8, 8, 8, 8, 8, 8, 8, 8, 8, 8])) (.t 2), none, none⟩,
    ⟨.conv .i64 (.t 3), none, none⟩,
    ⟨.bin .add (.t 0) (.t 4), none, none⟩,
    ⟨.assign .own (.t 5), (some 1), none⟩])
  .ret))))⟩

/-- credence/bignat.trim -/
def f7 : AFn := ⟨1, [0, 2, 3], [.v 1],
  (.seq (.region [⟨.assign .asis (.c (.slice true 1 0 [])), (some 1), none⟩])
  (.seq (.region [⟨.move (.v 0), none, none⟩,
    ⟨.len false (.t 0), none, none⟩,
    ⟨.assign .asis (.t 1), (some 2), none⟩])
  (.seq (.block 0 (.loop [0, 2]
   (.seq (.seq (.region [⟨.move (.v 2), none, none⟩,
     ⟨.bin .gtr (.t 0) (.c (.int .i64 0)), none, none⟩,
     ⟨.move (.t 1), none, none⟩,
     ⟨.move (.v 0), none, (some (2, true))⟩,
     ⟨.move (.v 2), none, (some (2, true))⟩,
     ⟨.bin .sub (.t 4) (.c (.int .i64 1)), none, (some (2, true))⟩,
     ⟨.indexAddr 1 (.t 3) (.t 5), none, (some (2, true))⟩,
     ⟨.load .asis false 1 (.t 6), none, (some (2, true))⟩,
     ⟨.bin .eql (.t 7) (.c (.int .u32 0)), none, (some (2, true))⟩,
     ⟨.pick (.t 2) (.t 8) (.c (.bool false)), none, none⟩])
   (.cond (.t 9)
    .skip
    (.exit 0)))
   (.block 1 (.region [⟨.move (.v 2), none, none⟩,
     ⟨.bin .sub (.t 0) (.c (.int .i64 1)), none, none⟩,
     ⟨.assign .asis (.t 1), (some 2), none⟩])))))
  (.seq (.region [⟨.move (.v 0), none, none⟩,
    ⟨.move (.v 2), none, none⟩,
    ⟨.slice 1 (.t 0) none (some (.t 1)), none, none⟩,
    ⟨.assign .own (.t 2), (some 1), none⟩])
  .ret))))⟩

/-- credence/bignat.BitLen -/
def f6 : AFn := ⟨1, [0, 2], [.v 1],
  (.seq (.region [⟨.assign .asis (.c (.int .i64 0)), (some 1), none⟩])
  (.seq (.region [⟨.move (.v 0), none, none⟩,
    ⟨.call 7 [.asis] .share [(.t 0)], none, none⟩,
    ⟨.assign .asis (.t 1), (some 0), none⟩])
  (.seq (.seq (.region [⟨.move (.v 0), none, none⟩,
    ⟨.len false (.t 0), none, none⟩,
    ⟨.bin .eql (.t 1) (.c (.int .i64 0)), none, none⟩])
  (.cond (.t 2)
   (.seq (.region [⟨.assign .asis (.c (.int .i64 0)), (some 1), none⟩])
   .ret)
   .skip))
  (.seq (.region [⟨.move (.v 0), none, none⟩,
    ⟨.len false (.t 0), none, none⟩,
    ⟨.bin .sub (.t 1) (.c (.int .i64 1)), none, none⟩,
    ⟨.bin .mul (.c (.int .i64 32)) (.t 2), none, none⟩,
    ⟨.move (.v 0), none, none⟩,
    ⟨.move (.v 0), none, none⟩,
    ⟨.len false (.t 5), none, none⟩,
    ⟨.bin .sub (.t 6) (.c (.int .i64 1)), none, none⟩,
    ⟨.indexAddr 1 (.t 4) (.t 7), none, none⟩,
    ⟨.load .asis false 1 (.t 8), none, none⟩,
    ⟨.call 8 [.asis] .share [(.t 9)], none, none⟩,
    ⟨.bin .add (.t 3) (.t 10), none, none⟩,
    ⟨.assign .own (.t 11), (some 1), none⟩])
  .ret))))⟩

/-- credence/rational.parts -/
def f5 : AFn := ⟨1, [0, 1, 2, 3, 4], [.v 2, .v 3, .v 4],
  (.seq (.region [⟨.box (.v 0), (some 1), none⟩,
    ⟨.assign .asis (.c (.bool false)), (some 2), none⟩,
    ⟨.assign .asis (.c (.slice true 1 0 [])), (some 3), none⟩,
    ⟨.assign .asis (.c (.slice true 1 0 [])), (some 4), none⟩])
  (.seq (.seq (.region [⟨.fieldAddr 2 (.v 1), none, none⟩,
    ⟨.load .asis false 1 (.t 0), none, none⟩,
    ⟨.call 6 [.lend] .share [(.t 1)], none, none⟩,
    ⟨.bin .eql (.t 2) (.c (.int .i64 0)), none, none⟩,
    ⟨.move (.t 3), none, none⟩,
    ⟨.fieldAddr 1 (.v 1), none, (some (4, false))⟩,
    ⟨.load .asis false 1 (.t 5), none, (some (4, false))⟩,
    ⟨.call 6 [.lend] .share [(.t 6)], none, (some (4, false))⟩,
    ⟨.bin .eql (.t 7) (.c (.int .i64 0)), none, (some (4, false))⟩,
    ⟨.pick (.t 4) (.c (.bool true)) (.t 8), none, none⟩])
  (.cond (.t 9)
   (.seq (.region [⟨.call 9 [] .own [], none, none⟩,
     ⟨.assign .asis (.c (.bool false)), (some 2), none⟩,
     ⟨.assign .asis (.c (.slice true 1 0 [])), (some 3), none⟩,
     ⟨.assign .own (.t 0), (some 4), none⟩])
   .ret)
   .skip))
  (.seq (.draw [⟨.fieldAddr 0 (.v 1), none, none⟩,
    ⟨.load .asis false 1 (.t 0), none, none⟩,
    ⟨.fieldAddr 1 (.v 1), none, none⟩,
    ⟨.load .asis false 1 (.t 2), none, none⟩,
    ⟨.fieldAddr 2 (.v 1), none, none⟩,
    ⟨.load .asis false 1 (.t 4), none, none⟩,
    ⟨.assign .asis (.t 1), (some 2), none⟩,
    ⟨.assign .asis (.t 3), (some 3), none⟩,
    ⟨.assign .asis (.t 5), (some 4), none⟩] [] [0, 0, 0, 0, 0, 0, 0, 0, 0])
  .ret)))⟩

/-- credence/rational.Sign -/
def f4 : AFn := ⟨1, [0, 1, 2, 3, 4], [.v 2],
  (.seq (.region [⟨.box (.v 0), (some 1), none⟩,
    ⟨.assign .asis (.c (.int .i64 0)), (some 2), none⟩])
  (.seq (.region [⟨.load .asis true 3 (.v 1), none, none⟩,
    ⟨.call 5 [.share] .share [(.t 0)], none, none⟩,
    ⟨.move (.t 1), none, none⟩,
    ⟨.extract 0 (.t 2), none, none⟩,
    ⟨.extract 1 (.t 2), none, none⟩,
    ⟨.extract 2 (.t 2), none, none⟩,
    ⟨.assign .asis (.t 3), (some 3), none⟩,
    ⟨.assign .asis (.t 4), (some 4), none⟩,
    ⟨.assign .asis (.t 5), none, none⟩])
  (.seq (.block 0 (.seq (.region [⟨.move (.v 4), none, none⟩,
    ⟨.call 6 [.asis] .share [(.t 0)], none, none⟩,
    ⟨.bin .eql (.t 1) (.c (.int .i64 0)), none, none⟩,
    ⟨.assign .asis (.t 2), none, none⟩])
  (.cond (.t 3)
   (.seq (.region [⟨.assign .asis (.c (.int .i64 0)), (some 2), none⟩])
   .ret)
   (.seq (.region [⟨.move (.v 3), none, none⟩,
     ⟨.assign .asis (.t 0), none, none⟩])
   (.cond (.t 1)
    (.seq (.region [⟨.assign .asis (.c (.int .i64 (-1))), (some 2), none⟩])
    .ret)
    .skip)))))
  (.seq (.region [⟨.assign .asis (.c (.int .i64 1)), (some 2), none⟩])
  .ret))))⟩

/-- credence/worlds.Valid -/
def f3 : AFn := ⟨1, [0, 1, 2, 4, 6, 12, 13, 14, 23, 24, 25], [.v 2],
  (.seq (.region [⟨.box (.v 0), (some 1), none⟩,
    ⟨.assign .asis (.c (.bool false)), (some 2), none⟩])
  (.seq (.seq (.region [⟨.fieldAddr 0 (.v 1), none, none⟩,
    ⟨.load .asis false 1 (.t 0), none, none⟩,
    ⟨.len false (.t 1), none, none⟩,
    ⟨.bin .gtr (.t 2) (.c (.int .i64 4096)), none, none⟩])
  (.cond (.t 3)
   (.seq (.region [⟨.assign .asis (.c (.bool false)), (some 2), none⟩])
   .ret)
   .skip))
  (.seq (.seq (.region [⟨.fieldAddr 0 (.v 1), none, none⟩,
    ⟨.load .share false 1 (.t 0), (some 5), none⟩,
    ⟨.len false (.v 5), (some 6), none⟩,
    ⟨.assign .asis (.c (.int .i64 0)), (some 7), none⟩])
  (.block 0 (.loop [5, 6, 7]
   (.seq (.region [⟨.bin .lss (.v 7) (.v 6), none, none⟩])
   (.seq (.cond (.t 0)
    .skip
    (.exit 0))
   (.seq (.block 1 (.seq (.region [⟨.indexAddr 1 (.v 5) (.v 7), none, none⟩,
     ⟨.load .asis true 1 (.t 0), none, none⟩,
     ⟨.alloc [(.slice true 3 0 [])], (some 3), none⟩,
     ⟨.store false 1 (.v 3) (.t 1), none, none⟩])
   (.seq (.seq (.region [⟨.fieldAddr 0 (.v 3), none, none⟩,
     ⟨.load .asis false 1 (.t 0), none, none⟩,
     ⟨.len false (.t 1), none, none⟩,
     ⟨.bin .gtr (.t 2) (.c (.int .i64 16)), none, none⟩])
   (.cond (.t 3)
    (.seq (.region [⟨.assign .asis (.c (.bool false)), (some 2), none⟩])
    .ret)
    .skip))
   (.seq (.seq (.region [⟨.fieldAddr 0 (.v 3), none, none⟩,
     ⟨.load .share false 1 (.t 0), (some 8), none⟩,
     ⟨.len false (.v 8), (some 9), none⟩,
     ⟨.assign .asis (.c (.int .i64 0)), (some 10), none⟩])
   (.block 2 (.loop [3, 5, 6, 7, 8, 9, 10]
    (.seq (.region [⟨.bin .lss (.v 10) (.v 9), none, none⟩])
    (.seq (.cond (.t 0)
     .skip
     (.exit 2))
    (.seq (.block 3 (.seq (.region [⟨.indexAddr 3 (.v 8) (.v 10), none, none⟩,
      ⟨.load .asis true 3 (.t 0), none, none⟩,
      ⟨.alloc [(.bool false), (.slice true 1 0 []), (.slice true 1 0 [])], (some 4), none⟩,
      ⟨.store false 3 (.v 4) (.t 1), none, none⟩])
    (.seq (.region [⟨.load .asis true 3 (.v 4), none, none⟩,
      ⟨.call 4 [.lend] .share [(.t 0)], none, none⟩,
      ⟨.bin .lss (.t 1) (.c (.int .i64 0)), none, none⟩])
    (.cond (.t 2)
     (.seq (.region [⟨.assign .asis (.c (.bool false)), (some 2), none⟩])
     .ret)
     .skip))))
    (.region [⟨.bin .add (.v 10) (.c (.int .i64 1)), none, none⟩,
      ⟨.assign .asis (.t 0), (some 10), none⟩])))))))
   (.seq (.region [⟨.load .asis true 1 (.v 3), none, none⟩,
     ⟨.call 10 [.lend] .share [(.t 0)], none, none⟩,
     ⟨.call 4 [.asis] .share [(.t 1)], none, none⟩,
     ⟨.bin .lss (.t 2) (.c (.int .i64 0)), none, none⟩])
   (.cond (.t 3)
    (.seq (.region [⟨.assign .asis (.c (.bool false)), (some 2), none⟩])
    .ret)
    .skip))))))
   (.region [⟨.bin .add (.v 7) (.c (.int .i64 1)), none, none⟩,
     ⟨.assign .asis (.t 0), (some 7), none⟩])))))))
  (.seq (.region [⟨.assign .asis (.c (.bool true)), (some 2), none⟩])
  .ret))))⟩

/-- credence/worlds.Count -/
def f2 : AFn := ⟨1, [0, 1, 2, 3, 5, 11, 12, 13], [.v 2],
  (.seq (.region [⟨.box (.v 0), (some 1), none⟩,
    ⟨.assign .asis (.c (.slice true 1 0 [])), (some 2), none⟩])
  (.seq (.seq (.region [⟨.load .asis true 1 (.v 1), none, none⟩,
    ⟨.call 3 [.lend] .share [(.t 0)], none, none⟩,
    ⟨.un .not (.t 1), none, none⟩])
  (.cond (.t 2)
   (.seq (.region [⟨.assign .asis (.c (.slice true 1 0 [])), (some 2), none⟩])
   .ret)
   .skip))
  (.seq (.region [⟨.call 22 [.asis] .own [(.c (.int .u64 1))], none, none⟩,
    ⟨.assign .own (.t 0), (some 3), none⟩])
  (.seq (.seq (.region [⟨.fieldAddr 0 (.v 1), none, none⟩,
    ⟨.load .share false 1 (.t 0), (some 5), none⟩,
    ⟨.len false (.v 5), (some 6), none⟩,
    ⟨.assign .asis (.c (.int .i64 0)), (some 7), none⟩])
  (.block 0 (.loop [3, 5, 6, 7]
   (.seq (.region [⟨.bin .lss (.v 7) (.v 6), none, none⟩])
   (.seq (.cond (.t 0)
    .skip
    (.exit 0))
   (.seq (.block 1 (.seq (.region [⟨.indexAddr 1 (.v 5) (.v 7), none, none⟩,
     ⟨.load .asis true 1 (.t 0), none, none⟩,
     ⟨.alloc [(.slice true 3 0 [])], (some 4), none⟩,
     ⟨.store false 1 (.v 4) (.t 1), none, none⟩])
   (.region [⟨.move (.v 3), none, none⟩,
     ⟨.load .asis true 1 (.v 4), none, none⟩,
     ⟨.call 34 [.lend] .share [(.t 1)], none, none⟩,
     ⟨.conv .u64 (.t 2), none, none⟩,
     ⟨.call 22 [.asis] .share [(.t 3)], none, none⟩,
     ⟨.call 14 [.lend, .asis] .own [(.t 0), (.t 4)], none, none⟩,
     ⟨.assign .own (.t 5), (some 3), none⟩])))
   (.region [⟨.bin .add (.v 7) (.c (.int .i64 1)), none, none⟩,
     ⟨.assign .asis (.t 0), (some 7), none⟩])))))))
  (.seq (.region [⟨.move (.v 3), none, none⟩,
    ⟨.assign .own (.t 0), (some 2), none⟩])
  .ret)))))⟩

/-- credence/credencebase.At -/
def f1 : AFn := ⟨2, [0, 1, 4], [.v 2],
  (.seq (.region [⟨.assign .asis (.c (.int .i64 0)), (some 2), none⟩])
  (.seq (.seq (.region [⟨.move (.v 0), none, none⟩,
    ⟨.len false (.t 0), none, none⟩,
    ⟨.bin .eql (.t 1) (.c (.int .i64 0)), none, none⟩])
  (.cond (.t 2)
   (.seq (.region [⟨.move (.v 1), none, none⟩,
     ⟨.bin .and (.t 0) (.c (.int .i64 65535)), none, none⟩,
     ⟨.assign .own (.t 1), (some 2), none⟩])
   .ret)
   .skip))
  (.seq (.draw [⟨.move (.v 0), none, none⟩,
    ⟨.move (.v 1), none, none⟩,
    ⟨.move (.v 0), none, none⟩,
    ⟨.len false (.t 2), none, none⟩,
    ⟨.bin .rem (.t 1) (.t 3), none, none⟩,
    ⟨.indexAddr 1 (.t 0) (.t 4), none, none⟩,
    ⟨.load .asis false 1 (.t 5), none, none⟩,
    ⟨.bin .and (.t 6) (.c (.int .i64 65535)), none, none⟩,
    ⟨.move (.v 1), none, none⟩,
    ⟨.move (.v 0), none, none⟩,
    ⟨.len false (.t 9), none, none⟩,
    ⟨.bin .quo (.t 8) (.t 10), none, none⟩,
    ⟨.bin .add (.t 7) (.t 11), none, none⟩,
    ⟨.assign .asis (.t 12), (some 2), none⟩] [] [0, 0, 0, 0, 0, 0, 0, 0, 0, 0, 0, 0, 0, 0])
  .ret)))⟩

/-- credence/credencelaw11.WorldsNumbers -/
def f0 : AFn := ⟨3, [0, 1, 2, 6, 7, 8, 9, 11, 12, 13, 14, 15, 16, 18, 19, 20, 21, 22, 23], [.v 3],
  (.seq (.region [⟨.assign .asis (.c (.bool false)), (some 3), none⟩])
  (.seq (.seq (.region [⟨.move (.v 2), none, none⟩,
    ⟨.len false (.t 0), none, none⟩,
    ⟨.bin .gtr (.t 1) (.c (.int .i64 3)), none, none⟩])
  (.cond (.t 2)
   (.seq (.region [⟨.assign .asis (.c (.bool true)), (some 3), none⟩])
   .ret)
   .skip))
  (.seq (.region [⟨.build [(.slice true 1 0 [])] [], none, none⟩,
    ⟨.alloc [(.slice true 1 0 [])], (some 4), none⟩,
    ⟨.store false 1 (.v 4) (.t 0), none, none⟩])
  (.seq (.seq (.region [⟨.assign .asis (.c (.int .u8 0)), (some 5), none⟩])
  (.block 0 (.loop [0, 1, 2, 4, 5]
   (.seq (.seq (.region [⟨.move (.v 5), none, none⟩,
     ⟨.move (.v 1), none, none⟩,
     ⟨.bin .and (.t 1) (.c (.int .u8 63)), none, none⟩,
     ⟨.bin .lss (.t 0) (.t 2), none, none⟩])
   (.cond (.t 3)
    .skip
    (.exit 0)))
   (.seq (.block 1 (.draw [⟨.fieldAddr 0 (.v 4), none, none⟩,
     ⟨.load .asis false 1 (.t 0), none, none⟩,
     ⟨.move (.v 0), none, none⟩,
     ⟨.move (.v 5), none, none⟩,
     ⟨.conv .i64 (.t 3), none, none⟩,
     ⟨.call 1 [.asis, .asis] .share [(.t 2), (.t 4)], none, none⟩,
     ⟨.bin .rem (.t 5) (.c (.int .i64 5)), none, none⟩,
     ⟨.makeSlice .own [(.bool false), (.slice true 1 0 []), (.slice true 1 0 [])] 56 (.t 6) (.t 6), none, none⟩,
     ⟨.build [(.slice true 3 0 [])] [(0, 1, (.t 7))], none, none⟩,
     ⟨.buildSlice .own [(.slice true 3 0 [])] 1 [(0, (.t 8))], none, none⟩,
     ⟨.append false 1 24 true (.t 1) (.t 9), none, none⟩,
     ⟨.fieldAddr 0 (.v 4), none, none⟩,
     ⟨.store false 1 (.t 11) (.t 10), none, none⟩] [(1, 5), (1, 7), (1, 9)] [0, 0, 0, 0, 0, 0, 0, 1, 0, 1, 1, 0, 0]))
   (.region [⟨.move (.v 5), none, none⟩,
     ⟨.bin .add (.t 0) (.c (.int .u8 1)), none, none⟩,
     ⟨.assign .asis (.t 1), (some 5), none⟩]))))))
  (.seq (.region [⟨.load .asis true 1 (.v 4), none, none⟩,
    ⟨.call 2 [.lend] .share [(.t 0)], none, none⟩,
    ⟨.assign .asis (.t 1), (some 6), none⟩])
  (.seq (.region [⟨.move (.v 2), none, none⟩,
    ⟨.call 35 [.asis] .share [(.t 0)], none, none⟩,
    ⟨.move (.v 6), none, none⟩,
    ⟨.call 23 [.asis, .asis] .share [(.t 1), (.t 2)], none, none⟩,
    ⟨.move (.t 3), none, none⟩,
    ⟨.extract 0 (.t 4), none, none⟩,
    ⟨.extract 1 (.t 4), none, none⟩,
    ⟨.extract 2 (.t 4), none, none⟩,
    ⟨.assign .asis (.t 5), none, none⟩,
    ⟨.assign .asis (.t 6), (some 7), none⟩,
    ⟨.assign .asis (.t 7), (some 8), none⟩])
  (.seq (.seq (.region [⟨.move (.v 8), none, none⟩,
    ⟨.un .not (.t 0), none, none⟩])
  (.cond (.t 1)
   (.seq (.region [⟨.assign .asis (.c (.bool false)), (some 3), none⟩])
   .ret)
   .skip))
  (.seq (.region [⟨.load .asis true 1 (.v 4), none, none⟩,
    ⟨.move (.v 7), none, none⟩,
    ⟨.call 36 [.lend, .asis] .share [(.t 0), (.t 1)], none, none⟩,
    ⟨.move (.t 2), none, none⟩,
    ⟨.extract 0 (.t 3), none, none⟩,
    ⟨.extract 1 (.t 3), none, none⟩,
    ⟨.assign .asis (.t 4), (some 9), none⟩,
    ⟨.assign .asis (.t 5), (some 10), none⟩])
  (.seq (.region [⟨.load .asis true 1 (.v 4), none, none⟩,
    ⟨.move (.v 9), none, none⟩,
    ⟨.call 38 [.lend, .asis] .share [(.t 0), (.t 1)], none, none⟩,
    ⟨.move (.t 2), none, none⟩,
    ⟨.extract 0 (.t 3), none, none⟩,
    ⟨.extract 1 (.t 3), none, none⟩,
    ⟨.assign .asis (.t 4), (some 11), none⟩,
    ⟨.assign .asis (.t 5), (some 12), none⟩])
  (.seq (.draw [⟨.load .asis true 1 (.v 4), none, none⟩,
    ⟨.move (.v 6), none, none⟩,
    ⟨.move (.v 7), none, none⟩,
    ⟨.call 15 [.asis, .asis] .share [(.t 1), (.t 2)], none, none⟩,
    ⟨.call 36 [.lend, .asis] .share [(.t 0), (.t 3)], none, none⟩,
    ⟨.move (.t 4), none, none⟩,
    ⟨.extract 0 (.t 5), none, none⟩,
    ⟨.extract 1 (.t 5), none, none⟩,
    ⟨.assign .asis (.t 6), none, none⟩,
    ⟨.assign .asis (.t 7), (some 13), none⟩] [(0, 3)] [0, 0, 0, 1, 1, 0, 0, 0, 0, 0])
  (.seq (.region [⟨.load .asis true 1 (.v 4), none, none⟩,
    ⟨.move (.v 0), none, none⟩,
    ⟨.call 41 [.lend, .asis] .share [(.t 0), (.t 1)], none, none⟩,
    ⟨.assign .asis (.t 2), (some 14), none⟩])
  (.seq (.region [⟨.load .asis true 1 (.v 4), none, none⟩,
    ⟨.move (.v 14), none, none⟩,
    ⟨.call 38 [.lend, .asis] .share [(.t 0), (.t 1)], none, none⟩,
    ⟨.move (.t 2), none, none⟩,
    ⟨.extract 0 (.t 3), none, none⟩,
    ⟨.extract 1 (.t 3), none, none⟩,
    ⟨.assign .asis (.t 4), (some 15), none⟩,
    ⟨.assign .asis (.t 5), (some 16), none⟩])
  (.seq (.region [⟨.load .asis true 1 (.v 4), none, none⟩,
    ⟨.move (.v 15), none, none⟩,
    ⟨.call 36 [.lend, .asis] .share [(.t 0), (.t 1)], none, none⟩,
    ⟨.move (.t 2), none, none⟩,
    ⟨.extract 0 (.t 3), none, none⟩,
    ⟨.extract 1 (.t 3), none, none⟩,
    ⟨.assign .asis (.t 4), (some 17), none⟩,
    ⟨.assign .asis (.t 5), (some 18), none⟩])
  (.seq (.region [⟨.move (.v 10), none, none⟩,
    ⟨.move (.t 0), none, none⟩,
    ⟨.move (.v 12), none, (some (1, true))⟩,
    ⟨.pick (.t 1) (.t 2) (.c (.bool false)), none, none⟩,
    ⟨.move (.t 3), none, none⟩,
    ⟨.move (.v 11), none, (some (4, true))⟩,
    ⟨.move (.v 7), none, (some (4, true))⟩,
    ⟨.call 42 [.asis, .asis] .share [(.t 5), (.t 6)], none, (some (4, true))⟩,
    ⟨.pick (.t 4) (.t 7) (.c (.bool false)), none, none⟩,
    ⟨.move (.t 8), none, none⟩,
    ⟨.move (.v 13), none, (some (9, true))⟩,
    ⟨.un .not (.t 10), none, (some (9, true))⟩,
    ⟨.pick (.t 9) (.t 11) (.c (.bool false)), none, none⟩,
    ⟨.move (.t 12), none, none⟩,
    ⟨.move (.v 16), none, (some (13, true))⟩,
    ⟨.pick (.t 13) (.t 14) (.c (.bool false)), none, none⟩,
    ⟨.move (.t 15), none, none⟩,
    ⟨.move (.v 18), none, (some (16, true))⟩,
    ⟨.pick (.t 16) (.t 17) (.c (.bool false)), none, none⟩,
    ⟨.move (.t 18), none, none⟩,
    ⟨.move (.v 17), none, (some (19, true))⟩,
    ⟨.move (.v 14), none, (some (19, true))⟩,
    ⟨.call 43 [.asis, .asis] .share [(.t 20), (.t 21)], none, (some (19, true))⟩,
    ⟨.pick (.t 19) (.t 22) (.c (.bool false)), none, none⟩,
    ⟨.move (.t 23), none, none⟩,
    ⟨.move (.v 15), none, (some (24, true))⟩,
    ⟨.move (.v 6), none, (some (24, true))⟩,
    ⟨.call 13 [.asis, .asis] .share [(.t 25), (.t 26)], none, (some (24, true))⟩,
    ⟨.bin .lss (.t 27) (.c (.int .i64 0)), none, (some (24, true))⟩,
    ⟨.pick (.t 24) (.t 28) (.c (.bool false)), none, none⟩,
    ⟨.move (.t 29), none, none⟩,
    ⟨.call 44 [] .own [], none, (some (30, true))⟩,
    ⟨.pick (.t 30) (.t 31) (.c (.bool false)), none, none⟩,
    ⟨.assign .own (.t 32), (some 3), none⟩])
  .ret))))))))))))))⟩

end Av.F
namespace Av
open Go
def tab1 : List Fun := [.code F.f0, .code F.f1, .code F.f2, .code F.f3, .code F.f4, .code F.f5, .code F.f6, .code F.f7, .code F.f8, .code F.f9, .code F.f10, .code F.f11, .code F.f12, .code F.f13, .code F.f14, .code F.f15, .code F.f16, .code F.f17, .code F.f18, .code F.f19, .code F.f20, .code F.f21, .code F.f22, .code F.f23, .code F.f24, .code F.f25, .code F.f26, .code F.f27, .code F.f28, .code F.f29, .code F.f30, .code F.f31, .code F.f32, .code F.f33, .code F.f34, .code F.f35, .code F.f36, .code F.f37, .code F.f38, .code F.f39, .code F.f40, .code F.f41, .code F.f42, .code F.f43, .code F.f44, .code F.f45, .code F.f46, .code F.f47, .code F.f48, .code F.f49, .code F.f50, .code F.f51, .code F.f52, .code F.f53, .code F.f54, .code F.f55, .code F.f56, .code F.f57, .code F.f58, .code F.f59, .code F.f60, .code F.f61]
def Has1 (T : Nat → Option Fun) : Prop := ∀ g f, tab1[g]? = some f → T g = some f
end Av
namespace Av.F
open Go

/-- credence/credencelaw11.WorldsVisits -/
def f62 : AFn := ⟨1, [0, 2, 3, 4, 5, 6, 7, 8, 9, 10], [.v 1],
  (.seq (.region [⟨.assign .asis (.c (.bool false)), (some 1), none⟩])
  (.seq (.region [⟨.move (.v 0), none, none⟩,
    ⟨.call 63 [.asis] .own [(.t 0)], none, none⟩,
    ⟨.alloc [(.slice true 1 0 [])], (some 2), none⟩,
    ⟨.store false 1 (.v 2) (.t 1), none, none⟩])
  (.seq (.region [⟨.load .asis true 1 (.v 2), none, none⟩,
    ⟨.call 66 [.lend] .share [(.t 0)], none, none⟩,
    ⟨.assign .asis (.t 1), (some 3), none⟩,
    ⟨.assign .asis (.c (.bool true)), (some 4), none⟩])
  (.seq (.region [⟨.assign .asis (.c (.int .u64 0)), (some 5), none⟩])
  (.seq (.block 0 (.loop [2, 3, 4, 5]
   (.seq (.seq (.region [⟨.move (.v 4), none, none⟩,
     ⟨.move (.t 0), none, none⟩,
     ⟨.move (.v 5), none, (some (1, true))⟩,
     ⟨.bin .lss (.t 2) (.c (.int .u64 1000)), none, (some (1, true))⟩,
     ⟨.pick (.t 1) (.t 3) (.c (.bool false)), none, none⟩])
   (.cond (.t 4)
    .skip
    (.exit 0)))
   (.seq (.block 1 (.seq (.region [⟨.load .asis true 1 (.v 2), none, none⟩,
     ⟨.move (.v 3), none, none⟩,
     ⟨.call 38 [.lend, .asis] .share [(.t 0), (.t 1)], none, none⟩,
     ⟨.move (.t 2), none, none⟩,
     ⟨.extract 0 (.t 3), none, none⟩,
     ⟨.extract 1 (.t 3), none, none⟩,
     ⟨.assign .asis (.t 4), (some 6), none⟩,
     ⟨.assign .asis (.t 5), (some 7), none⟩])
   (.seq (.draw [⟨.load .asis true 1 (.v 2), none, none⟩,
     ⟨.move (.v 5), none, none⟩,
     ⟨.call 22 [.asis] .share [(.t 1)], none, none⟩,
     ⟨.call 36 [.lend, .asis] .share [(.t 0), (.t 2)], none, none⟩,
     ⟨.move (.t 3), none, none⟩,
     ⟨.extract 0 (.t 4), none, none⟩,
     ⟨.extract 1 (.t 4), none, none⟩,
     ⟨.assign .asis (.t 5), (some 8), none⟩,
     ⟨.assign .asis (.t 6), (some 9), none⟩] [(0, 2)] [0, 0, 1, 1, 0, 0, 0, 0, 0])
   (.seq (.seq (.region [⟨.load .asis true 1 (.v 2), none, none⟩,
     ⟨.move (.v 3), none, none⟩,
     ⟨.call 39 [.lend, .asis] .share [(.t 0), (.t 1)], none, none⟩,
     ⟨.un .not (.t 2), none, none⟩,
     ⟨.move (.t 3), none, none⟩,
     ⟨.move (.v 7), none, (some (4, false))⟩,
     ⟨.un .not (.t 5), none, (some (4, false))⟩,
     ⟨.pick (.t 4) (.c (.bool true)) (.t 6), none, none⟩,
     ⟨.move (.t 7), none, none⟩,
     ⟨.move (.v 6), none, (some (8, false))⟩,
     ⟨.move (.v 5), none, (some (8, false))⟩,
     ⟨.call 22 [.asis] .share [(.t 10)], none, (some (8, false))⟩,
     ⟨.call 13 [.asis, .asis] .share [(.t 9), (.t 11)], none, (some (8, false))⟩,
     ⟨.bin .neq (.t 12) (.c (.int .i64 0)), none, (some (8, false))⟩,
     ⟨.pick (.t 8) (.c (.bool true)) (.t 13), none, none⟩,
     ⟨.move (.t 14), none, none⟩,
     ⟨.move (.v 9), none, (some (15, false))⟩,
     ⟨.un .not (.t 16), none, (some (15, false))⟩,
     ⟨.pick (.t 15) (.c (.bool true)) (.t 17), none, none⟩,
     ⟨.move (.t 18), none, none⟩,
     ⟨.move (.v 8), none, (some (19, false))⟩,
     ⟨.move (.v 3), none, (some (19, false))⟩,
     ⟨.call 43 [.asis, .asis] .share [(.t 20), (.t 21)], none, (some (19, false))⟩,
     ⟨.un .not (.t 22), none, (some (19, false))⟩,
     ⟨.pick (.t 19) (.c (.bool true)) (.t 23), none, none⟩])
   (.cond (.t 24)
    (.seq (.region [⟨.assign .asis (.c (.bool false)), (some 1), none⟩])
    .ret)
    .skip))
   (.region [⟨.load .asis true 1 (.v 2), none, none⟩,
     ⟨.move (.v 3), none, none⟩,
     ⟨.call 67 [.lend, .asis] .share [(.t 0), (.t 1)], none, none⟩,
     ⟨.move (.t 2), none, none⟩,
     ⟨.extract 0 (.t 3), none, none⟩,
     ⟨.extract 1 (.t 3), none, none⟩,
     ⟨.assign .asis (.t 4), (some 3), none⟩,
     ⟨.assign .asis (.t 5), (some 4), none⟩])))))
   (.region [⟨.move (.v 5), none, none⟩,
     ⟨.bin .add (.t 0) (.c (.int .u64 1)), none, none⟩,
     ⟨.assign .asis (.t 1), (some 5), none⟩])))))
  (.seq (.region [⟨.load .asis true 1 (.v 2), none, none⟩,
    ⟨.call 2 [.lend] .share [(.t 0)], none, none⟩,
    ⟨.move (.v 5), none, none⟩,
    ⟨.call 22 [.asis] .share [(.t 2)], none, none⟩,
    ⟨.call 13 [.asis, .asis] .share [(.t 1), (.t 3)], none, none⟩,
    ⟨.bin .eql (.t 4) (.c (.int .i64 0)), none, none⟩,
    ⟨.move (.t 5), none, none⟩,
    ⟨.call 44 [] .own [], none, (some (6, true))⟩,
    ⟨.pick (.t 6) (.t 7) (.c (.bool false)), none, none⟩,
    ⟨.assign .own (.t 8), (some 1), none⟩])
  .ret))))))⟩

/-- credence/credencebase.Space -/
def f63 : AFn := ⟨1, [0, 2, 3, 4, 5, 6, 7, 8, 9], [.cell 1 true 1],
  (.seq (.region [⟨.alloc [(.slice true 1 0 [])], (some 1), none⟩])
  (.seq (.region [⟨.build [(.slice true 1 0 [])] [], none, none⟩,
    ⟨.alloc [(.slice true 1 0 [])], (some 2), none⟩,
    ⟨.store false 1 (.v 2) (.t 0), none, none⟩])
  (.seq (.seq (.region [⟨.assign .asis (.c (.int .i64 0)), (some 3), none⟩])
  (.block 0 (.loop [0, 1, 2, 3]
   (.seq (.seq (.region [⟨.move (.v 3), none, none⟩,
     ⟨.move (.v 0), none, none⟩,
     ⟨.call 1 [.asis, .asis] .share [(.t 1), (.c (.int .i64 0))], none, none⟩,
     ⟨.bin .rem (.t 2) (.c (.int .i64 6)), none, none⟩,
     ⟨.bin .lss (.t 0) (.t 3), none, none⟩])
   (.cond (.t 4)
    .skip
    (.exit 0)))
   (.seq (.block 1 (.seq (.region [⟨.build [(.slice true 3 0 [])] [], none, none⟩,
     ⟨.alloc [(.slice true 3 0 [])], (some 4), none⟩,
     ⟨.store false 1 (.v 4) (.t 0), none, none⟩])
   (.seq (.region [⟨.move (.v 0), none, none⟩,
     ⟨.move (.v 3), none, none⟩,
     ⟨.bin .add (.c (.int .i64 1)) (.t 1), none, none⟩,
     ⟨.call 1 [.asis, .asis] .share [(.t 0), (.t 2)], none, none⟩,
     ⟨.assign .asis (.t 3), (some 5), none⟩])
   (.seq (.seq (.region [⟨.assign .asis (.c (.int .i64 0)), (some 6), none⟩])
   (.block 2 (.loop [0, 1, 2, 3, 4, 5, 6]
    (.seq (.seq (.region [⟨.move (.v 6), none, none⟩,
      ⟨.move (.v 5), none, none⟩,
      ⟨.bin .rem (.t 1) (.c (.int .i64 3)), none, none⟩,
      ⟨.bin .lss (.t 0) (.t 2), none, none⟩])
    (.cond (.t 3)
     .skip
     (.exit 2)))
    (.seq (.block 3 (.seq (.region [⟨.move (.v 5), none, none⟩,
      ⟨.move (.v 6), none, none⟩,
      ⟨.bin .mul (.c (.int .i64 3)) (.t 1), none, none⟩,
      ⟨.bin .add (.c (.int .i64 2)) (.t 2), none, none⟩,
      ⟨.conv .u64 (.t 3), none, none⟩,
      ⟨.bin .shr (.t 0) (.t 4), none, none⟩,
      ⟨.call 45 [.asis] .own [(.t 5)], none, none⟩,
      ⟨.alloc [(.bool false), (.slice true 1 0 []), (.slice true 1 0 [])], (some 7), none⟩,
      ⟨.store false 3 (.v 7) (.t 6), none, none⟩])
    (.seq (.region [⟨.call 46 [.asis, .asis] .own [(.c (.int .i64 1)), (.c (.int .i64 2))], none, none⟩,
      ⟨.move (.t 0), none, none⟩,
      ⟨.extract 0 (.t 1), none, none⟩,
      ⟨.extract 1 (.t 1), none, none⟩,
      ⟨.alloc [(.bool false), (.slice true 1 0 []), (.slice true 1 0 [])], (some 8), none⟩,
      ⟨.store false 3 (.v 8) (.t 2), none, none⟩,
      ⟨.assign .asis (.t 3), none, none⟩])
    (.draw [⟨.fieldAddr 0 (.v 4), none, none⟩,
      ⟨.load .asis false 1 (.t 0), none, none⟩,
      ⟨.load .asis true 3 (.v 7), none, none⟩,
      ⟨.load .asis true 3 (.v 8), none, none⟩,
      ⟨.call 64 [.lend, .lend] .own [(.t 2), (.t 3)], none, none⟩,
      ⟨.buildSlice .own [(.bool false), (.slice true 1 0 []), (.slice true 1 0 [])] 1 [(0, (.t 4))], none, none⟩,
      ⟨.append false 3 56 true (.t 1) (.t 5), none, none⟩,
      ⟨.fieldAddr 0 (.v 4), none, none⟩,
      ⟨.store false 1 (.t 7) (.t 6), none, none⟩] [(1, 4), (1, 5)] [0, 0, 0, 0, 2, 1, 1, 0, 0]))))
    (.region [⟨.move (.v 6), none, none⟩,
      ⟨.bin .add (.t 0) (.c (.int .i64 1)), none, none⟩,
      ⟨.assign .asis (.t 1), (some 6), none⟩]))))))
   (.region [⟨.fieldAddr 0 (.v 2), none, none⟩,
     ⟨.load .asis false 1 (.t 0), none, none⟩,
     ⟨.load .own true 1 (.v 4), none, none⟩,
     ⟨.buildSlice .own [(.slice true 3 0 [])] 1 [(0, (.t 2))], none, none⟩,
     ⟨.append false 1 24 true (.t 1) (.t 3), none, none⟩,
     ⟨.fieldAddr 0 (.v 2), none, none⟩,
     ⟨.store false 1 (.t 5) (.t 4), none, none⟩])))))
   (.region [⟨.move (.v 3), none, none⟩,
     ⟨.bin .add (.t 0) (.c (.int .i64 1)), none, none⟩,
     ⟨.assign .asis (.t 1), (some 3), none⟩]))))))
  (.seq (.region [⟨.load .own true 1 (.v 2), none, none⟩,
    ⟨.store false 1 (.v 1) (.t 0), none, none⟩])
  .ret))))⟩

/-- credence/credenceref1.FracMul -/
def f64 : AFn := ⟨2, [0, 1, 2, 3, 4], [.cell 4 true 3],
  (.seq (.region [⟨.box (.v 0), (some 2), none⟩,
    ⟨.box (.v 1), (some 3), none⟩,
    ⟨.alloc [(.bool false), (.slice true 1 0 []), (.slice true 1 0 [])], (some 4), none⟩])
  (.seq (.draw [⟨.fieldAddr 0 (.v 2), none, none⟩,
    ⟨.load .asis false 1 (.t 0), none, none⟩,
    ⟨.fieldAddr 0 (.v 3), none, none⟩,
    ⟨.load .asis false 1 (.t 2), none, none⟩,
    ⟨.eqb true (.t 1) (.t 3), none, none⟩,
    ⟨.fieldAddr 1 (.v 2), none, none⟩,
    ⟨.load .asis false 1 (.t 5), none, none⟩,
    ⟨.fieldAddr 1 (.v 3), none, none⟩,
    ⟨.load .asis false 1 (.t 7), none, none⟩,
    ⟨.call 65 [.lend, .lend] .share [(.t 6), (.t 8)], none, none⟩,
    ⟨.fieldAddr 2 (.v 2), none, none⟩,
    ⟨.load .asis false 1 (.t 10), none, none⟩,
    ⟨.fieldAddr 2 (.v 3), none, none⟩,
    ⟨.load .asis false 1 (.t 12), none, none⟩,
    ⟨.call 65 [.lend, .lend] .share [(.t 11), (.t 13)], none, none⟩,
    ⟨.call 50 [.asis, .asis, .asis] .own [(.t 4), (.t 9), (.t 14)], none, none⟩,
    ⟨.store false 3 (.v 4) (.t 15), none, none⟩] [(1, 9), (3, 9), (9, 11), (9, 13), (1, 14), (3, 14)] [0, 0, 0, 0, 0, 0, 0, 0, 0, 1, 0, 0, 0, 0, 1, 2, 0])
  .ret))⟩

/-- credence/credenceref1.NatMul -/
def f65 : AFn := ⟨2, [0, 1, 4, 5, 6, 7, 8], [.v 2],
  (.seq (.region [⟨.assign .asis (.c (.slice true 1 0 [])), (some 2), none⟩])
  (.seq (.region [⟨.move (.v 0), none, none⟩,
    ⟨.len false (.t 0), none, none⟩,
    ⟨.move (.v 1), none, none⟩,
    ⟨.len false (.t 2), none, none⟩,
    ⟨.bin .add (.t 1) (.t 3), none, none⟩,
    ⟨.makeSlice .own [(.int .u32 0)] 4 (.t 4) (.t 4), none, none⟩,
    ⟨.assign .own (.t 5), (some 3), none⟩])
  (.seq (.seq (.region [⟨.assign .asis (.c (.int .i64 0)), (some 4), none⟩])
  (.block 0 (.loop [0, 1, 3, 4]
   (.seq (.seq (.region [⟨.move (.v 4), none, none⟩,
     ⟨.move (.v 0), none, none⟩,
     ⟨.len false (.t 1), none, none⟩,
     ⟨.bin .lss (.t 0) (.t 2), none, none⟩])
   (.cond (.t 3)
    .skip
    (.exit 0)))
   (.seq (.block 1 (.seq (.region [⟨.assign .asis (.c (.int .u64 0)), (some 5), none⟩])
   (.seq (.seq (.region [⟨.assign .asis (.c (.int .i64 0)), (some 6), none⟩])
   (.block 2 (.loop [0, 1, 3, 4, 5, 6]
    (.seq (.seq (.region [⟨.move (.v 6), none, none⟩,
      ⟨.move (.v 1), none, none⟩,
      ⟨.len false (.t 1), none, none⟩,
      ⟨.bin .lss (.t 0) (.t 2), none, none⟩])
    (.cond (.t 3)
     .skip
     (.exit 2)))
    (.seq (.block 3 (.seq (.draw [⟨.move (.v 5), none, none⟩,
      ⟨.move (.v 3), none, none⟩,
      ⟨.move (.v 4), none, none⟩,
      ⟨.move (.v 6), none, none⟩,
      ⟨.bin .add (.t 2) (.t 3), none, none⟩,
      ⟨.indexAddr 1 (.t 1) (.t 4), none, none⟩,
      ⟨.load .asis false 1 (.t 5), none, none⟩,
      ⟨.conv .u64 (.t 6), none, none⟩,
      ⟨.bin .add (.t 0) (.t 7), none, none⟩,
      ⟨.move (.v 0), none, none⟩,
      ⟨.move (.v 4), none, none⟩,
      ⟨.indexAddr 1 (.t 9) (.t 10), none, none⟩,
      ⟨.load .asis false 1 (.t 11), none, none⟩,
      ⟨.conv .u64 (.t 12), none, none⟩,
      ⟨.move (.v 1), none, none⟩,
      ⟨.move (.v 6), none, none⟩,
      ⟨.indexAddr 1 (.t 14) (.t 15), none, none⟩,
      ⟨.load .asis false 1 (.t 16), none, none⟩,
      ⟨.conv .u64 (.t 17), none, none⟩,
      ⟨.bin .mul (.t 13) (.t 18), none, none⟩,
      ⟨.bin .add (.t 8) (.t 19), none, none⟩,
      ⟨.assign .asis (.t 20), (some 5), none⟩] [] [0, 0, 0, 0, 0, 0, 0, 0, 0, 0, 0, 0, 0, 0, 0, 0, 0, 0, 0, 0, 0, 0])
    (.seq (.region [⟨.move (.v 3), none, none⟩,
      ⟨.move (.v 4), none, none⟩,
      ⟨.move (.v 6), none, none⟩,
      ⟨.bin .add (.t 1) (.t 2), none, none⟩,
      ⟨.move (.v 5), none, none⟩,
      ⟨.conv .u32 (.t 4), none, none⟩,
      ⟨.indexAddr 1 (.t 0) (.t 3), none, none⟩,
      ⟨.store true 1 (.t 6) (.t 5), none, none⟩])
    (.region [⟨.move (.v 5), none, none⟩,
      ⟨.bin .shr (.t 0) (.c (.int .u64 32)), none, none⟩,
      ⟨.assign .asis (.t 1), (some 5), none⟩]))))
    (.region [⟨.move (.v 6), none, none⟩,
      ⟨.bin .add (.t 0) (.c (.int .i64 1)), none, none⟩,
      ⟨.assign .asis (.t 1), (some 6), none⟩]))))))
   (.region [⟨.move (.v 3), none, none⟩,
     ⟨.move (.v 4), none, none⟩,
     ⟨.move (.v 1), none, none⟩,
     ⟨.len false (.t 2), none, none⟩,
     ⟨.bin .add (.t 1) (.t 3), none, none⟩,
     ⟨.move (.v 5), none, none⟩,
     ⟨.conv .u32 (.t 5), none, none⟩,
     ⟨.indexAddr 1 (.t 0) (.t 4), none, none⟩,
     ⟨.store true 1 (.t 7) (.t 6), none, none⟩]))))
   (.region [⟨.move (.v 4), none, none⟩,
     ⟨.bin .add (.t 0) (.c (.int .i64 1)), none, none⟩,
     ⟨.assign .asis (.t 1), (some 4), none⟩]))))))
  (.seq (.region [⟨.move (.v 3), none, none⟩,
    ⟨.call 49 [.lend] .own [(.t 0)], none, none⟩,
    ⟨.assign .own (.t 1), (some 2), none⟩])
  .ret))))⟩

/-- credence/worlds.First -/
def f66 : AFn := ⟨1, [0, 1, 2, 3, 4, 5, 14, 15, 16], [.v 2],
  (.seq (.region [⟨.box (.v 0), (some 1), none⟩,
    ⟨.assign .asis (.c (.slice true 1 0 [])), (some 2), none⟩])
  (.seq (.seq (.region [⟨.load .asis true 1 (.v 1), none, none⟩,
    ⟨.call 3 [.lend] .share [(.t 0)], none, none⟩,
    ⟨.un .not (.t 1), none, none⟩])
  (.cond (.t 2)
   (.seq (.region [⟨.assign .asis (.c (.slice true 1 0 [])), (some 2), none⟩])
   .ret)
   .skip))
  (.seq (.region [⟨.fieldAddr 0 (.v 1), none, none⟩,
    ⟨.load .asis false 1 (.t 0), none, none⟩,
    ⟨.len false (.t 1), none, none⟩,
    ⟨.makeSlice .own [(.int .i64 0)] 8 (.t 2) (.t 2), none, none⟩,
    ⟨.assign .own (.t 3), (some 3), none⟩])
  (.seq (.seq (.region [⟨.fieldAddr 0 (.v 1), none, none⟩,
    ⟨.load .share false 1 (.t 0), (some 6), none⟩,
    ⟨.len false (.v 6), (some 7), none⟩,
    ⟨.assign .asis (.c (.int .i64 0)), (some 8), none⟩])
  (.block 0 (.loop [3, 6, 7, 8]
   (.seq (.region [⟨.bin .lss (.v 8) (.v 7), none, none⟩])
   (.seq (.cond (.t 0)
    .skip
    (.exit 0))
   (.seq (.block 1 (.seq (.region [⟨.move (.v 8), none, none⟩,
     ⟨.indexAddr 1 (.v 6) (.v 8), none, none⟩,
     ⟨.load .asis true 1 (.t 1), none, none⟩,
     ⟨.alloc [(.slice true 3 0 [])], (some 5), none⟩,
     ⟨.assign .asis (.t 0), (some 4), none⟩,
     ⟨.store false 1 (.v 5) (.t 2), none, none⟩])
   (.region [⟨.move (.v 3), none, none⟩,
     ⟨.move (.v 4), none, none⟩,
     ⟨.load .asis true 1 (.v 5), none, none⟩,
     ⟨.call 37 [.share, .asis] .own [(.t 2), (.c (.int .i64 0))], none, none⟩,
     ⟨.indexAddr 1 (.t 0) (.t 1), none, none⟩,
     ⟨.store true 1 (.t 4) (.t 3), none, none⟩])))
   (.region [⟨.bin .add (.v 8) (.c (.int .i64 1)), none, none⟩,
     ⟨.assign .asis (.t 0), (some 8), none⟩])))))))
  (.seq (.region [⟨.move (.v 3), none, none⟩,
    ⟨.assign .own (.t 0), (some 2), none⟩])
  .ret)))))⟩

/-- credence/worlds.Next -/
def f67 : AFn := ⟨2, [0, 1, 2, 4, 5, 6, 7, 8, 9], [.v 3, .v 4],
  (.seq (.region [⟨.box (.v 0), (some 2), none⟩,
    ⟨.assign .asis (.c (.slice true 1 0 [])), (some 3), none⟩,
    ⟨.assign .asis (.c (.bool false)), (some 4), none⟩])
  (.seq (.seq (.region [⟨.load .asis true 1 (.v 2), none, none⟩,
    ⟨.move (.v 1), none, none⟩,
    ⟨.call 39 [.lend, .asis] .share [(.t 0), (.t 1)], none, none⟩,
    ⟨.un .not (.t 2), none, none⟩])
  (.cond (.t 3)
   (.seq (.region [⟨.assign .asis (.c (.slice true 1 0 [])), (some 3), none⟩,
     ⟨.assign .asis (.c (.bool false)), (some 4), none⟩])
   .ret)
   .skip))
  (.seq (.region [⟨.move (.v 1), none, none⟩,
    ⟨.call 68 [.asis] .own [(.t 0)], none, none⟩,
    ⟨.assign .own (.t 1), (some 5), none⟩])
  (.seq (.seq (.region [⟨.move (.v 5), none, none⟩,
    ⟨.len false (.t 0), none, none⟩,
    ⟨.bin .sub (.t 1) (.c (.int .i64 1)), none, none⟩,
    ⟨.assign .asis (.t 2), (some 6), none⟩])
  (.block 0 (.loop [2, 5, 6]
   (.seq (.seq (.region [⟨.move (.v 6), none, none⟩,
     ⟨.bin .geq (.t 0) (.c (.int .i64 0)), none, none⟩])
   (.cond (.t 1)
    .skip
    (.exit 0)))
   (.seq (.block 1 (.seq (.region [⟨.fieldAddr 0 (.v 2), none, none⟩,
     ⟨.load .asis false 1 (.t 0), none, none⟩,
     ⟨.move (.v 6), none, none⟩,
     ⟨.indexAddr 1 (.t 1) (.t 2), none, none⟩,
     ⟨.load .asis true 1 (.t 3), none, none⟩,
     ⟨.alloc [(.slice true 3 0 [])], (some 7), none⟩,
     ⟨.store false 1 (.v 7) (.t 4), none, none⟩])
   (.seq (.seq (.draw [⟨.load .asis true 1 (.v 7), none, none⟩,
     ⟨.move (.v 5), none, none⟩,
     ⟨.move (.v 6), none, none⟩,
     ⟨.indexAddr 1 (.t 1) (.t 2), none, none⟩,
     ⟨.load .asis false 1 (.t 3), none, none⟩,
     ⟨.call 40 [.share, .asis] .share [(.t 0), (.t 4)], none, none⟩,
     ⟨.assign .asis (.t 5), (some 8), none⟩] [] [0, 0, 0, 0, 0, 0, 0])
   (.seq (.region [⟨.move (.v 8), none, none⟩,
     ⟨.bin .add (.t 0) (.c (.int .i64 1)), none, none⟩,
     ⟨.load .asis true 1 (.v 7), none, none⟩,
     ⟨.call 34 [.lend] .share [(.t 2)], none, none⟩,
     ⟨.bin .lss (.t 1) (.t 3), none, none⟩])
   (.cond (.t 4)
    (.seq (.region [⟨.move (.v 5), none, none⟩,
      ⟨.move (.v 6), none, none⟩,
      ⟨.load .asis true 1 (.v 7), none, none⟩,
      ⟨.move (.v 8), none, none⟩,
      ⟨.bin .add (.t 3) (.c (.int .i64 1)), none, none⟩,
      ⟨.call 37 [.share, .asis] .own [(.t 2), (.t 4)], none, none⟩,
      ⟨.indexAddr 1 (.t 0) (.t 1), none, none⟩,
      ⟨.store true 1 (.t 6) (.t 5), none, none⟩])
    (.seq (.region [⟨.move (.v 5), none, none⟩,
      ⟨.assign .own (.t 0), (some 3), none⟩,
      ⟨.assign .asis (.c (.bool true)), (some 4), none⟩])
    .ret))
    .skip)))
   (.region [⟨.move (.v 5), none, none⟩,
     ⟨.move (.v 6), none, none⟩,
     ⟨.load .asis true 1 (.v 7), none, none⟩,
     ⟨.call 37 [.share, .asis] .own [(.t 2), (.c (.int .i64 0))], none, none⟩,
     ⟨.indexAddr 1 (.t 0) (.t 1), none, none⟩,
     ⟨.store true 1 (.t 4) (.t 3), none, none⟩]))))
   (.region [⟨.move (.v 6), none, none⟩,
     ⟨.bin .sub (.t 0) (.c (.int .i64 1)), none, none⟩,
     ⟨.assign .asis (.t 1), (some 6), none⟩]))))))
  (.seq (.region [⟨.assign .asis (.c (.slice true 1 0 [])), (some 3), none⟩,
    ⟨.assign .asis (.c (.bool false)), (some 4), none⟩])
  .ret)))))⟩

end Av.F

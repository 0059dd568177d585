/-
  No cell of these rows narrows 'for every input' (looked for: loops, veiled, ifaces, maps, wideKeys, modest, calm, conditions, laid).
  DERIVED. THE GIVEN ROWS OF THIS SEAT. 6 by the template 'for every input the law returns true; each argument reads behind the call as it read before'; 0 by the template 'total and deterministic' (their statements: YtndbkcpofkdbiaaTotals.lean).
  GIVEN WITH THE SEED: the statements are not yours to turn. If you find one false, say at which input.
  Laid BY PROGRAM, IN A SANDBOX (cutbox-rows.mjs): the forced cells as the released guide's own fill.sh prints them over the translation 8807f06ea82ee185… (all of the seat's roots in one cut). By AI agents, Wed Nov 11 2026. No macro, syntax, notation, axiom, sorry.
-/
import Derived.Test.YtndbkcpofkdbiaaChecked
import GoSem.Claim
import GoSem.ClaimJoined
import GoSem.ClaimMapViews
import Derived.JoinedTies
import Derived.KernelRfl
namespace Go.Proofs.Ytndbkcpofkdbiaa
/- THE CELL 'sum', in the pinned program and in every row, IS THE sha256 OF THE DUMP (.gsa) THAT YtndbkcpofkdbiaaProg.lean LOADS. Nothing in Lean hashes anything: it is a label: what it is worth is what the hold of that sum in a sandbox is worth. -/
noncomputable def Try.pinned : Pinned := { name := "ytndbkcpofkdbiaa", sum := "8807f06ea82ee18536f73fd87b2af2b47e7e6c1cff3e832f44b1e00567973663", checked := Try.checked }
namespace Rows
def none {H : Type} : Left H := { results := [], args := [] }

/-- 'credencelaw11.WorldsNumbers': WHATEVER THE INPUT: true; the input reads as it did. -/
def worldsNumbersSpec : ChangeSpec := { name := "worldsNumbers", fn := fun _ => fun
  | [d1, d2, d3] => { results := [.lit (.bool true)], args := [d1, d2, d3] }
  | _ => none }
def worldsNumbersRow : OpenClaim := { program := "ytndbkcpofkdbiaa", sum := "8807f06ea82ee18536f73fd87b2af2b47e7e6c1cff3e832f44b1e00567973663", func := "credence/credencelaw11.WorldsNumbers", spec := "worldsNumbers", apart := false }
def WorldsNumbersSaid : Prop := worldsNumbersRow.holds Try.pinned (OpenSpec.ofChange worldsNumbersSpec)

/-- ITS FALSE NEIGHBOUR: 'it returns false'. Refute it at one input. -/
def worldsNumbersWrong : ChangeSpec := { name := "worldsNumbers", fn := fun _ => fun
  | [d1, d2, d3] => { results := [.lit (.bool false)], args := [d1, d2, d3] }
  | _ => none }
def WorldsNumbersWrongFalsely : Prop := worldsNumbersRow.holds Try.pinned (OpenSpec.ofChange worldsNumbersWrong)

/-- 'credencelaw11.WorldsConcat': WHATEVER THE INPUT: true; the input reads as it did. -/
def worldsConcatSpec : ChangeSpec := { name := "worldsConcat", fn := fun _ => fun
  | [d1, d2, d3, d4] => { results := [.lit (.bool true)], args := [d1, d2, d3, d4] }
  | _ => none }
def worldsConcatRow : OpenClaim := { program := "ytndbkcpofkdbiaa", sum := "8807f06ea82ee18536f73fd87b2af2b47e7e6c1cff3e832f44b1e00567973663", func := "credence/credencelaw11.WorldsConcat", spec := "worldsConcat", apart := false }
def WorldsConcatSaid : Prop := worldsConcatRow.holds Try.pinned (OpenSpec.ofChange worldsConcatSpec)

/-- ITS FALSE NEIGHBOUR: 'it returns false'. Refute it at one input. -/
def worldsConcatWrong : ChangeSpec := { name := "worldsConcat", fn := fun _ => fun
  | [d1, d2, d3, d4] => { results := [.lit (.bool false)], args := [d1, d2, d3, d4] }
  | _ => none }
def WorldsConcatWrongFalsely : Prop := worldsConcatRow.holds Try.pinned (OpenSpec.ofChange worldsConcatWrong)

/-- 'credencelaw11.WorldsTells': WHATEVER THE INPUT: true; the input reads as it did. -/
def worldsTellsSpec : ChangeSpec := { name := "worldsTells", fn := fun _ => fun
  | [d1, d2, d3, d4] => { results := [.lit (.bool true)], args := [d1, d2, d3, d4] }
  | _ => none }
def worldsTellsRow : OpenClaim := { program := "ytndbkcpofkdbiaa", sum := "8807f06ea82ee18536f73fd87b2af2b47e7e6c1cff3e832f44b1e00567973663", func := "credence/credencelaw11.WorldsTells", spec := "worldsTells", apart := false }
def WorldsTellsSaid : Prop := worldsTellsRow.holds Try.pinned (OpenSpec.ofChange worldsTellsSpec)

/-- ITS FALSE NEIGHBOUR: 'it returns false'. Refute it at one input. -/
def worldsTellsWrong : ChangeSpec := { name := "worldsTells", fn := fun _ => fun
  | [d1, d2, d3, d4] => { results := [.lit (.bool false)], args := [d1, d2, d3, d4] }
  | _ => none }
def WorldsTellsWrongFalsely : Prop := worldsTellsRow.holds Try.pinned (OpenSpec.ofChange worldsTellsWrong)

/-- 'credencelaw11.WorldsVisits': WHATEVER THE INPUT: true; the input reads as it did. -/
def worldsVisitsSpec : ChangeSpec := { name := "worldsVisits", fn := fun _ => fun
  | [d] => { results := [.lit (.bool true)], args := [d] }
  | _ => none }
def worldsVisitsRow : OpenClaim := { program := "ytndbkcpofkdbiaa", sum := "8807f06ea82ee18536f73fd87b2af2b47e7e6c1cff3e832f44b1e00567973663", func := "credence/credencelaw11.WorldsVisits", spec := "worldsVisits", apart := false }
def WorldsVisitsSaid : Prop := worldsVisitsRow.holds Try.pinned (OpenSpec.ofChange worldsVisitsSpec)

/-- ITS FALSE NEIGHBOUR: 'it returns false'. Refute it at one input. -/
def worldsVisitsWrong : ChangeSpec := { name := "worldsVisits", fn := fun _ => fun
  | [d] => { results := [.lit (.bool false)], args := [d] }
  | _ => none }
def WorldsVisitsWrongFalsely : Prop := worldsVisitsRow.holds Try.pinned (OpenSpec.ofChange worldsVisitsWrong)

/-- 'credencelaw11.WorldsTotal': WHATEVER THE INPUT: true; the input reads as it did. -/
def worldsTotalSpec : ChangeSpec := { name := "worldsTotal", fn := fun _ => fun
  | [d1, d2, d3] => { results := [.lit (.bool true)], args := [d1, d2, d3] }
  | _ => none }
def worldsTotalRow : OpenClaim := { program := "ytndbkcpofkdbiaa", sum := "8807f06ea82ee18536f73fd87b2af2b47e7e6c1cff3e832f44b1e00567973663", func := "credence/credencelaw11.WorldsTotal", spec := "worldsTotal", apart := false }
def WorldsTotalSaid : Prop := worldsTotalRow.holds Try.pinned (OpenSpec.ofChange worldsTotalSpec)

/-- ITS FALSE NEIGHBOUR: 'it returns false'. Refute it at one input. -/
def worldsTotalWrong : ChangeSpec := { name := "worldsTotal", fn := fun _ => fun
  | [d1, d2, d3] => { results := [.lit (.bool false)], args := [d1, d2, d3] }
  | _ => none }
def WorldsTotalWrongFalsely : Prop := worldsTotalRow.holds Try.pinned (OpenSpec.ofChange worldsTotalWrong)

/-- 'credencelaw11.WorldsFresh': WHATEVER THE INPUT: true; the input reads as it did. -/
def worldsFreshSpec : ChangeSpec := { name := "worldsFresh", fn := fun _ => fun
  | [d1, d2] => { results := [.lit (.bool true)], args := [d1, d2] }
  | _ => none }
def worldsFreshRow : OpenClaim := { program := "ytndbkcpofkdbiaa", sum := "8807f06ea82ee18536f73fd87b2af2b47e7e6c1cff3e832f44b1e00567973663", func := "credence/credencelaw11.WorldsFresh", spec := "worldsFresh", apart := false }
def WorldsFreshSaid : Prop := worldsFreshRow.holds Try.pinned (OpenSpec.ofChange worldsFreshSpec)

/-- ITS FALSE NEIGHBOUR: 'it returns false'. Refute it at one input. -/
def worldsFreshWrong : ChangeSpec := { name := "worldsFresh", fn := fun _ => fun
  | [d1, d2] => { results := [.lit (.bool false)], args := [d1, d2] }
  | _ => none }
def WorldsFreshWrongFalsely : Prop := worldsFreshRow.holds Try.pinned (OpenSpec.ofChange worldsFreshWrong)

/- THE SECOND FORM. 'bulk': how many values and letters a reading holds, each counted each time it is reached (what is shared counts as often as it is met; a slice's spare places count too). A statement '..UptoSaid' is the law's where the arguments, and the package variables that the reading takes, are together of bulk at most 1048576: NARROWER than '..Said'. Prove '..Said' where nothing that the law and all that it calls make is longer than what came in: it says more and counts as full. Else prove '..UptoSaid'. A law counts once. -/
mutual
def uptoBulk {H : Type} : DataW H → Nat
  | .lit (.string bytes) => bytes.length + 1
  | .lit _ => 1
  | .nil => 1
  | .ptr d => uptoBulk d + 1
  | .slice elems spare => uptoBulkAll elems + uptoBulkAll spare + 1
  | .agg parts => uptoBulkAll parts + 1
  | .iface _ d => uptoBulk d + 1
  | .map entries => uptoBulkEntries entries + 1
  | .held _ => 1
def uptoBulkAll {H : Type} : List (DataW H) → Nat
  | [] => 0
  | d :: r => uptoBulk d + uptoBulkAll r
def uptoBulkEntries {H : Type} : List (Lit × DataW H) → Nat
  | [] => 0
  | x :: r => uptoBulkEntry x + uptoBulkEntries r
def uptoBulkEntry {H : Type} : Lit × DataW H → Nat
  | (.string bytes, d) => bytes.length + uptoBulk d + 1
  | (_, d) => uptoBulk d + 1
 end
def uptoSmall : (H : Type) → List (DataW H) → Bool := fun _ ds => decide (uptoBulkAll ds ≤ 1048576)
def OpenSpec.upto (s : _root_.Go.ChangeSpec) : _root_.Go.OpenSpec := { _root_.Go.OpenSpec.ofChange s with cond := some uptoSmall }

/-- 'credencelaw11.WorldsNumbers', WHERE WHAT IT READS IS OF BULK AT MOST 1048576: true; the input reads as it did. -/
def worldsNumbersUptoRow : OpenClaim := { program := "ytndbkcpofkdbiaa", sum := "8807f06ea82ee18536f73fd87b2af2b47e7e6c1cff3e832f44b1e00567973663", func := "credence/credencelaw11.WorldsNumbers", spec := "worldsNumbers", apart := false, narrowed := true }
def WorldsNumbersUptoSaid : Prop := worldsNumbersUptoRow.holds Try.pinned (OpenSpec.upto worldsNumbersSpec)

/-- 'credencelaw11.WorldsConcat', WHERE WHAT IT READS IS OF BULK AT MOST 1048576: true; the input reads as it did. -/
def worldsConcatUptoRow : OpenClaim := { program := "ytndbkcpofkdbiaa", sum := "8807f06ea82ee18536f73fd87b2af2b47e7e6c1cff3e832f44b1e00567973663", func := "credence/credencelaw11.WorldsConcat", spec := "worldsConcat", apart := false, narrowed := true }
def WorldsConcatUptoSaid : Prop := worldsConcatUptoRow.holds Try.pinned (OpenSpec.upto worldsConcatSpec)

/-- 'credencelaw11.WorldsTells', WHERE WHAT IT READS IS OF BULK AT MOST 1048576: true; the input reads as it did. -/
def worldsTellsUptoRow : OpenClaim := { program := "ytndbkcpofkdbiaa", sum := "8807f06ea82ee18536f73fd87b2af2b47e7e6c1cff3e832f44b1e00567973663", func := "credence/credencelaw11.WorldsTells", spec := "worldsTells", apart := false, narrowed := true }
def WorldsTellsUptoSaid : Prop := worldsTellsUptoRow.holds Try.pinned (OpenSpec.upto worldsTellsSpec)

/-- 'credencelaw11.WorldsVisits', WHERE WHAT IT READS IS OF BULK AT MOST 1048576: true; the input reads as it did. -/
def worldsVisitsUptoRow : OpenClaim := { program := "ytndbkcpofkdbiaa", sum := "8807f06ea82ee18536f73fd87b2af2b47e7e6c1cff3e832f44b1e00567973663", func := "credence/credencelaw11.WorldsVisits", spec := "worldsVisits", apart := false, narrowed := true }
def WorldsVisitsUptoSaid : Prop := worldsVisitsUptoRow.holds Try.pinned (OpenSpec.upto worldsVisitsSpec)

/-- 'credencelaw11.WorldsTotal', WHERE WHAT IT READS IS OF BULK AT MOST 1048576: true; the input reads as it did. -/
def worldsTotalUptoRow : OpenClaim := { program := "ytndbkcpofkdbiaa", sum := "8807f06ea82ee18536f73fd87b2af2b47e7e6c1cff3e832f44b1e00567973663", func := "credence/credencelaw11.WorldsTotal", spec := "worldsTotal", apart := false, narrowed := true }
def WorldsTotalUptoSaid : Prop := worldsTotalUptoRow.holds Try.pinned (OpenSpec.upto worldsTotalSpec)

/-- 'credencelaw11.WorldsFresh', WHERE WHAT IT READS IS OF BULK AT MOST 1048576: true; the input reads as it did. -/
def worldsFreshUptoRow : OpenClaim := { program := "ytndbkcpofkdbiaa", sum := "8807f06ea82ee18536f73fd87b2af2b47e7e6c1cff3e832f44b1e00567973663", func := "credence/credencelaw11.WorldsFresh", spec := "worldsFresh", apart := false, narrowed := true }
def WorldsFreshUptoSaid : Prop := worldsFreshUptoRow.holds Try.pinned (OpenSpec.upto worldsFreshSpec)

end Rows
end Go.Proofs.Ytndbkcpofkdbiaa

/-
  No cell of these rows narrows 'for every input' (looked for: loops, veiled, ifaces, maps, wideKeys, modest, calm, conditions, laid).
  DERIVED. THE GIVEN ROWS OF THIS SEAT. 6 by the template 'for every input the law returns true; each argument reads behind the call as it read before'; 0 by the template 'total and deterministic' (their statements: YtkmdhkmcpllicaaTotals.lean).
  GIVEN WITH THE SEED: the statements are not yours to turn. If you find one false, say at which input.
  Laid BY PROGRAM, IN A SANDBOX (cutbox-rows.mjs): the forced cells as the released guide's own fill.sh prints them over the translation 45ecc5825be68b3d… (all of the seat's roots in one cut). By AI agents, Wed Nov 11 2026. No macro, syntax, notation, axiom, sorry.
-/
import Derived.Test.YtkmdhkmcpllicaaChecked
import GoSem.Claim
import GoSem.ClaimJoined
import GoSem.ClaimMapViews
import Derived.JoinedTies
import Derived.KernelRfl
namespace Go.Proofs.Ytkmdhkmcpllicaa
/- THE CELL 'sum', in the pinned program and in every row, IS THE sha256 OF THE DUMP (.gsa) THAT YtkmdhkmcpllicaaProg.lean LOADS. Nothing in Lean hashes anything: it is a label: what it is worth is what the hold of that sum in a sandbox is worth. -/
noncomputable def Try.pinned : Pinned := { name := "ytkmdhkmcpllicaa", sum := "45ecc5825be68b3dd760998c44275bc9b8d85d8913696a439a33717f3e6fbca5", checked := Try.checked }
namespace Rows
def none {H : Type} : Left H := { results := [], args := [] }

/-- 'palinodelaw15.SpansAgain': WHATEVER THE INPUT: true; the input reads as it did. -/
def spansAgainSpec : ChangeSpec := { name := "spansAgain", fn := fun _ => fun
  | [d1, d2, d3, d4] => { results := [.lit (.bool true)], args := [d1, d2, d3, d4] }
  | _ => none }
def spansAgainRow : OpenClaim := { program := "ytkmdhkmcpllicaa", sum := "45ecc5825be68b3dd760998c44275bc9b8d85d8913696a439a33717f3e6fbca5", func := "palinode/palinodelaw15.SpansAgain", spec := "spansAgain", unfollowed := true, recurses := true, apart := false }
def SpansAgainSaid : Prop := spansAgainRow.holds Try.pinned (OpenSpec.ofChange spansAgainSpec)

/-- ITS FALSE NEIGHBOUR: 'it returns false'. Refute it at one input. -/
def spansAgainWrong : ChangeSpec := { name := "spansAgain", fn := fun _ => fun
  | [d1, d2, d3, d4] => { results := [.lit (.bool false)], args := [d1, d2, d3, d4] }
  | _ => none }
def SpansAgainWrongFalsely : Prop := spansAgainRow.holds Try.pinned (OpenSpec.ofChange spansAgainWrong)

/-- 'palinodelaw15.SpansIn': WHATEVER THE INPUT: true; the input reads as it did. -/
def spansInSpec : ChangeSpec := { name := "spansIn", fn := fun _ => fun
  | [d1, d2, d3] => { results := [.lit (.bool true)], args := [d1, d2, d3] }
  | _ => none }
def spansInRow : OpenClaim := { program := "ytkmdhkmcpllicaa", sum := "45ecc5825be68b3dd760998c44275bc9b8d85d8913696a439a33717f3e6fbca5", func := "palinode/palinodelaw15.SpansIn", spec := "spansIn", unfollowed := true, recurses := true, apart := false }
def SpansInSaid : Prop := spansInRow.holds Try.pinned (OpenSpec.ofChange spansInSpec)

/-- ITS FALSE NEIGHBOUR: 'it returns false'. Refute it at one input. -/
def spansInWrong : ChangeSpec := { name := "spansIn", fn := fun _ => fun
  | [d1, d2, d3] => { results := [.lit (.bool false)], args := [d1, d2, d3] }
  | _ => none }
def SpansInWrongFalsely : Prop := spansInRow.holds Try.pinned (OpenSpec.ofChange spansInWrong)

/-- 'palinodelaw15.SpansMany': WHATEVER THE INPUT: true; the input reads as it did. -/
def spansManySpec : ChangeSpec := { name := "spansMany", fn := fun _ => fun
  | [d] => { results := [.lit (.bool true)], args := [d] }
  | _ => none }
def spansManyRow : OpenClaim := { program := "ytkmdhkmcpllicaa", sum := "45ecc5825be68b3dd760998c44275bc9b8d85d8913696a439a33717f3e6fbca5", func := "palinode/palinodelaw15.SpansMany", spec := "spansMany", unfollowed := true, recurses := true, apart := false }
def SpansManySaid : Prop := spansManyRow.holds Try.pinned (OpenSpec.ofChange spansManySpec)

/-- ITS FALSE NEIGHBOUR: 'it returns false'. Refute it at one input. -/
def spansManyWrong : ChangeSpec := { name := "spansMany", fn := fun _ => fun
  | [d] => { results := [.lit (.bool false)], args := [d] }
  | _ => none }
def SpansManyWrongFalsely : Prop := spansManyRow.holds Try.pinned (OpenSpec.ofChange spansManyWrong)

/-- 'palinodelaw15.SpansRows': WHATEVER THE INPUT: true; the input reads as it did. -/
def spansRowsSpec : ChangeSpec := { name := "spansRows", fn := fun _ => fun
  | [d] => { results := [.lit (.bool true)], args := [d] }
  | _ => none }
def spansRowsRow : OpenClaim := { program := "ytkmdhkmcpllicaa", sum := "45ecc5825be68b3dd760998c44275bc9b8d85d8913696a439a33717f3e6fbca5", func := "palinode/palinodelaw15.SpansRows", spec := "spansRows", unfollowed := true, recurses := true, apart := false }
def SpansRowsSaid : Prop := spansRowsRow.holds Try.pinned (OpenSpec.ofChange spansRowsSpec)

/-- ITS FALSE NEIGHBOUR: 'it returns false'. Refute it at one input. -/
def spansRowsWrong : ChangeSpec := { name := "spansRows", fn := fun _ => fun
  | [d] => { results := [.lit (.bool false)], args := [d] }
  | _ => none }
def SpansRowsWrongFalsely : Prop := spansRowsRow.holds Try.pinned (OpenSpec.ofChange spansRowsWrong)

/-- 'palinodelaw15.SpansTell': WHATEVER THE INPUT: true; the input reads as it did. -/
def spansTellSpec : ChangeSpec := { name := "spansTell", fn := fun _ => fun
  | [d1, d2, d3, d4, d5, d6] => { results := [.lit (.bool true)], args := [d1, d2, d3, d4, d5, d6] }
  | _ => none }
def spansTellRow : OpenClaim := { program := "ytkmdhkmcpllicaa", sum := "45ecc5825be68b3dd760998c44275bc9b8d85d8913696a439a33717f3e6fbca5", func := "palinode/palinodelaw15.SpansTell", spec := "spansTell", unfollowed := true, recurses := true, apart := false }
def SpansTellSaid : Prop := spansTellRow.holds Try.pinned (OpenSpec.ofChange spansTellSpec)

/-- ITS FALSE NEIGHBOUR: 'it returns false'. Refute it at one input. -/
def spansTellWrong : ChangeSpec := { name := "spansTell", fn := fun _ => fun
  | [d1, d2, d3, d4, d5, d6] => { results := [.lit (.bool false)], args := [d1, d2, d3, d4, d5, d6] }
  | _ => none }
def SpansTellWrongFalsely : Prop := spansTellRow.holds Try.pinned (OpenSpec.ofChange spansTellWrong)

/-- 'palinodelaw15.SpansGo': WHATEVER THE INPUT: true; the input reads as it did. -/
def spansGoSpec : ChangeSpec := { name := "spansGo", fn := fun _ => fun
  | [d1, d2, d3, d4] => { results := [.lit (.bool true)], args := [d1, d2, d3, d4] }
  | _ => none }
def spansGoRow : OpenClaim := { program := "ytkmdhkmcpllicaa", sum := "45ecc5825be68b3dd760998c44275bc9b8d85d8913696a439a33717f3e6fbca5", func := "palinode/palinodelaw15.SpansGo", spec := "spansGo", unfollowed := true, recurses := true, apart := false }
def SpansGoSaid : Prop := spansGoRow.holds Try.pinned (OpenSpec.ofChange spansGoSpec)

/-- ITS FALSE NEIGHBOUR: 'it returns false'. Refute it at one input. -/
def spansGoWrong : ChangeSpec := { name := "spansGo", fn := fun _ => fun
  | [d1, d2, d3, d4] => { results := [.lit (.bool false)], args := [d1, d2, d3, d4] }
  | _ => none }
def SpansGoWrongFalsely : Prop := spansGoRow.holds Try.pinned (OpenSpec.ofChange spansGoWrong)

/- THE SECOND FORM. 'bulk': how many values and letters a reading holds, each counted each time it is reached (what is shared counts as often as it is met; a slice's spare places count too). A statement '..UptoSaid' is the law's where the arguments, and the package variables that the reading takes, are together of bulk at most 1048576: NARROWER than '..Said'. Prove '..Said' where nothing that the law and all that it calls make is longer than what came in: it says more and counts as full. Else prove '..UptoSaid'. A law counts once. -/
mutual
def uptoBulk {H : Type} : DataW H → Nat
  | .lit (.string bytes) => bytes.length + 1
  | .lit _ => 1
  | .nil => 1
  | .ptr d => uptoBulk d + 1
  | .slice elems spare => uptoBulkAll elems + uptoBulkAll spare + 1
  | .agg parts => uptoBulkAll parts + 1
  | .iface _ d => uptoBulk d + 1
  | .map entries => uptoBulkEntries entries + 1
  | .held _ => 1
def uptoBulkAll {H : Type} : List (DataW H) → Nat
  | [] => 0
  | d :: r => uptoBulk d + uptoBulkAll r
def uptoBulkEntries {H : Type} : List (Lit × DataW H) → Nat
  | [] => 0
  | x :: r => uptoBulkEntry x + uptoBulkEntries r
def uptoBulkEntry {H : Type} : Lit × DataW H → Nat
  | (.string bytes, d) => bytes.length + uptoBulk d + 1
  | (_, d) => uptoBulk d + 1
 end
def uptoSmall : (H : Type) → List (DataW H) → Bool := fun _ ds => decide (uptoBulkAll ds ≤ 1048576)
def OpenSpec.upto (s : _root_.Go.ChangeSpec) : _root_.Go.OpenSpec := { _root_.Go.OpenSpec.ofChange s with cond := some uptoSmall }

/-- 'palinodelaw15.SpansAgain', WHERE WHAT IT READS IS OF BULK AT MOST 1048576: true; the input reads as it did. -/
def spansAgainUptoRow : OpenClaim := { program := "ytkmdhkmcpllicaa", sum := "45ecc5825be68b3dd760998c44275bc9b8d85d8913696a439a33717f3e6fbca5", func := "palinode/palinodelaw15.SpansAgain", spec := "spansAgain", unfollowed := true, recurses := true, apart := false, narrowed := true }
def SpansAgainUptoSaid : Prop := spansAgainUptoRow.holds Try.pinned (OpenSpec.upto spansAgainSpec)

/-- 'palinodelaw15.SpansIn', WHERE WHAT IT READS IS OF BULK AT MOST 1048576: true; the input reads as it did. -/
def spansInUptoRow : OpenClaim := { program := "ytkmdhkmcpllicaa", sum := "45ecc5825be68b3dd760998c44275bc9b8d85d8913696a439a33717f3e6fbca5", func := "palinode/palinodelaw15.SpansIn", spec := "spansIn", unfollowed := true, recurses := true, apart := false, narrowed := true }
def SpansInUptoSaid : Prop := spansInUptoRow.holds Try.pinned (OpenSpec.upto spansInSpec)

/-- 'palinodelaw15.SpansMany', WHERE WHAT IT READS IS OF BULK AT MOST 1048576: true; the input reads as it did. -/
def spansManyUptoRow : OpenClaim := { program := "ytkmdhkmcpllicaa", sum := "45ecc5825be68b3dd760998c44275bc9b8d85d8913696a439a33717f3e6fbca5", func := "palinode/palinodelaw15.SpansMany", spec := "spansMany", unfollowed := true, recurses := true, apart := false, narrowed := true }
def SpansManyUptoSaid : Prop := spansManyUptoRow.holds Try.pinned (OpenSpec.upto spansManySpec)

/-- 'palinodelaw15.SpansRows', WHERE WHAT IT READS IS OF BULK AT MOST 1048576: true; the input reads as it did. -/
def spansRowsUptoRow : OpenClaim := { program := "ytkmdhkmcpllicaa", sum := "45ecc5825be68b3dd760998c44275bc9b8d85d8913696a439a33717f3e6fbca5", func := "palinode/palinodelaw15.SpansRows", spec := "spansRows", unfollowed := true, recurses := true, apart := false, narrowed := true }
def SpansRowsUptoSaid : Prop := spansRowsUptoRow.holds Try.pinned (OpenSpec.upto spansRowsSpec)

/-- 'palinodelaw15.SpansTell', WHERE WHAT IT READS IS OF BULK AT MOST 1048576: true; the input reads as it did. -/
def spansTellUptoRow : OpenClaim := { program := "ytkmdhkmcpllicaa", sum := "45ecc5825be68b3dd760998c44275bc9b8d85d8913696a439a33717f3e6fbca5", func := "palinode/palinodelaw15.SpansTell", spec := "spansTell", unfollowed := true, recurses := true, apart := false, narrowed := true }
def SpansTellUptoSaid : Prop := spansTellUptoRow.holds Try.pinned (OpenSpec.upto spansTellSpec)

/-- 'palinodelaw15.SpansGo', WHERE WHAT IT READS IS OF BULK AT MOST 1048576: true; the input reads as it did. -/
def spansGoUptoRow : OpenClaim := { program := "ytkmdhkmcpllicaa", sum := "45ecc5825be68b3dd760998c44275bc9b8d85d8913696a439a33717f3e6fbca5", func := "palinode/palinodelaw15.SpansGo", spec := "spansGo", unfollowed := true, recurses := true, apart := false, narrowed := true }
def SpansGoUptoSaid : Prop := spansGoUptoRow.holds Try.pinned (OpenSpec.upto spansGoSpec)

end Rows
end Go.Proofs.Ytkmdhkmcpllicaa

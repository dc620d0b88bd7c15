/-
  No cell of these rows narrows 'for every input' (looked for: loops, veiled, ifaces, maps, wideKeys, modest, calm, conditions, laid).
  DERIVED. THE GIVEN ROWS OF THIS SEAT. 6 by the template 'for every input the law returns true; each argument reads behind the call as it read before'; 0 by the template 'total and deterministic' (their statements: YtjnhbaphmhbaaaaTotals.lean).
  GIVEN WITH THE SEED: the statements are not yours to turn. If you find one false, say at which input.
  Laid BY PROGRAM, IN A SANDBOX (cutbox-rows.mjs): the forced cells as the released guide's own fill.sh prints them over the translation 83718bbcaa232bba… (all of the seat's roots in one cut). By AI agents, Wed Nov 11 2026. No macro, syntax, notation, axiom, sorry.
-/
import Derived.Test.YtjnhbaphmhbaaaaChecked
import GoSem.Claim
import GoSem.ClaimJoined
import GoSem.ClaimMapViews
import Derived.JoinedTies
import Derived.KernelRfl
namespace Go.Proofs.Ytjnhbaphmhbaaaa
/- THE CELL 'sum', in the pinned program and in every row, IS THE sha256 OF THE DUMP (.gsa) THAT YtjnhbaphmhbaaaaProg.lean LOADS. Nothing in Lean hashes anything: it is a label: what it is worth is what the hold of that sum in a sandbox is worth. -/
noncomputable def Try.pinned : Pinned := { name := "ytjnhbaphmhbaaaa", sum := "83718bbcaa232bba1aba4cd5c24dfd4aaa26fdd7b354d2bfe1e4eee110a75d8d", checked := Try.checked }
namespace Rows
def none {H : Type} : Left H := { results := [], args := [] }

/-- 'palinodelaw13.ComposeTells': WHATEVER THE INPUT: true; the input reads as it did. -/
def composeTellsSpec : ChangeSpec := { name := "composeTells", fn := fun _ => fun
  | [d1, d2] => { results := [.lit (.bool true)], args := [d1, d2] }
  | _ => none }
def composeTellsRow : OpenClaim := { program := "ytjnhbaphmhbaaaa", sum := "83718bbcaa232bba1aba4cd5c24dfd4aaa26fdd7b354d2bfe1e4eee110a75d8d", func := "palinode/palinodelaw13.ComposeTells", spec := "composeTells", apart := false }
def ComposeTellsSaid : Prop := composeTellsRow.holds Try.pinned (OpenSpec.ofChange composeTellsSpec)

/-- ITS FALSE NEIGHBOUR: 'it returns false'. Refute it at one input. -/
def composeTellsWrong : ChangeSpec := { name := "composeTells", fn := fun _ => fun
  | [d1, d2] => { results := [.lit (.bool false)], args := [d1, d2] }
  | _ => none }
def ComposeTellsWrongFalsely : Prop := composeTellsRow.holds Try.pinned (OpenSpec.ofChange composeTellsWrong)

/-- 'palinodelaw13.ComposeInverts': WHATEVER THE INPUT: true; the input reads as it did. -/
def composeInvertsSpec : ChangeSpec := { name := "composeInverts", fn := fun _ => fun
  | [d1, d2] => { results := [.lit (.bool true)], args := [d1, d2] }
  | _ => none }
def composeInvertsRow : OpenClaim := { program := "ytjnhbaphmhbaaaa", sum := "83718bbcaa232bba1aba4cd5c24dfd4aaa26fdd7b354d2bfe1e4eee110a75d8d", func := "palinode/palinodelaw13.ComposeInverts", spec := "composeInverts", apart := false }
def ComposeInvertsSaid : Prop := composeInvertsRow.holds Try.pinned (OpenSpec.ofChange composeInvertsSpec)

/-- ITS FALSE NEIGHBOUR: 'it returns false'. Refute it at one input. -/
def composeInvertsWrong : ChangeSpec := { name := "composeInverts", fn := fun _ => fun
  | [d1, d2] => { results := [.lit (.bool false)], args := [d1, d2] }
  | _ => none }
def ComposeInvertsWrongFalsely : Prop := composeInvertsRow.holds Try.pinned (OpenSpec.ofChange composeInvertsWrong)

/-- 'palinodelaw13.ComposeBoth': WHATEVER THE INPUT: true; the input reads as it did. -/
def composeBothSpec : ChangeSpec := { name := "composeBoth", fn := fun _ => fun
  | [d1, d2] => { results := [.lit (.bool true)], args := [d1, d2] }
  | _ => none }
def composeBothRow : OpenClaim := { program := "ytjnhbaphmhbaaaa", sum := "83718bbcaa232bba1aba4cd5c24dfd4aaa26fdd7b354d2bfe1e4eee110a75d8d", func := "palinode/palinodelaw13.ComposeBoth", spec := "composeBoth", apart := false }
def ComposeBothSaid : Prop := composeBothRow.holds Try.pinned (OpenSpec.ofChange composeBothSpec)

/-- ITS FALSE NEIGHBOUR: 'it returns false'. Refute it at one input. -/
def composeBothWrong : ChangeSpec := { name := "composeBoth", fn := fun _ => fun
  | [d1, d2] => { results := [.lit (.bool false)], args := [d1, d2] }
  | _ => none }
def ComposeBothWrongFalsely : Prop := composeBothRow.holds Try.pinned (OpenSpec.ofChange composeBothWrong)

/-- 'palinodelaw13.ComposePlain': WHATEVER THE INPUT: true; the input reads as it did. -/
def composePlainSpec : ChangeSpec := { name := "composePlain", fn := fun _ => fun
  | [d1, d2] => { results := [.lit (.bool true)], args := [d1, d2] }
  | _ => none }
def composePlainRow : OpenClaim := { program := "ytjnhbaphmhbaaaa", sum := "83718bbcaa232bba1aba4cd5c24dfd4aaa26fdd7b354d2bfe1e4eee110a75d8d", func := "palinode/palinodelaw13.ComposePlain", spec := "composePlain", apart := false }
def ComposePlainSaid : Prop := composePlainRow.holds Try.pinned (OpenSpec.ofChange composePlainSpec)

/-- ITS FALSE NEIGHBOUR: 'it returns false'. Refute it at one input. -/
def composePlainWrong : ChangeSpec := { name := "composePlain", fn := fun _ => fun
  | [d1, d2] => { results := [.lit (.bool false)], args := [d1, d2] }
  | _ => none }
def ComposePlainWrongFalsely : Prop := composePlainRow.holds Try.pinned (OpenSpec.ofChange composePlainWrong)

/-- 'palinodelaw13.ComposeThree': WHATEVER THE INPUT: true; the input reads as it did. -/
def composeThreeSpec : ChangeSpec := { name := "composeThree", fn := fun _ => fun
  | [d1, d2, d3, d4] => { results := [.lit (.bool true)], args := [d1, d2, d3, d4] }
  | _ => none }
def composeThreeRow : OpenClaim := { program := "ytjnhbaphmhbaaaa", sum := "83718bbcaa232bba1aba4cd5c24dfd4aaa26fdd7b354d2bfe1e4eee110a75d8d", func := "palinode/palinodelaw13.ComposeThree", spec := "composeThree", apart := false }
def ComposeThreeSaid : Prop := composeThreeRow.holds Try.pinned (OpenSpec.ofChange composeThreeSpec)

/-- ITS FALSE NEIGHBOUR: 'it returns false'. Refute it at one input. -/
def composeThreeWrong : ChangeSpec := { name := "composeThree", fn := fun _ => fun
  | [d1, d2, d3, d4] => { results := [.lit (.bool false)], args := [d1, d2, d3, d4] }
  | _ => none }
def ComposeThreeWrongFalsely : Prop := composeThreeRow.holds Try.pinned (OpenSpec.ofChange composeThreeWrong)

/-- 'palinodelaw13.ComposeUndoes': WHATEVER THE INPUT: true; the input reads as it did. -/
def composeUndoesSpec : ChangeSpec := { name := "composeUndoes", fn := fun _ => fun
  | [d1, d2] => { results := [.lit (.bool true)], args := [d1, d2] }
  | _ => none }
def composeUndoesRow : OpenClaim := { program := "ytjnhbaphmhbaaaa", sum := "83718bbcaa232bba1aba4cd5c24dfd4aaa26fdd7b354d2bfe1e4eee110a75d8d", func := "palinode/palinodelaw13.ComposeUndoes", spec := "composeUndoes", apart := false }
def ComposeUndoesSaid : Prop := composeUndoesRow.holds Try.pinned (OpenSpec.ofChange composeUndoesSpec)

/-- ITS FALSE NEIGHBOUR: 'it returns false'. Refute it at one input. -/
def composeUndoesWrong : ChangeSpec := { name := "composeUndoes", fn := fun _ => fun
  | [d1, d2] => { results := [.lit (.bool false)], args := [d1, d2] }
  | _ => none }
def ComposeUndoesWrongFalsely : Prop := composeUndoesRow.holds Try.pinned (OpenSpec.ofChange composeUndoesWrong)

/- THE SECOND FORM. 'bulk': how many values and letters a reading holds, each counted each time it is reached (what is shared counts as often as it is met; a slice's spare places count too). A statement '..UptoSaid' is the law's where the arguments, and the package variables that the reading takes, are together of bulk at most 1048576: NARROWER than '..Said'. Prove '..Said' where nothing that the law and all that it calls make is longer than what came in: it says more and counts as full. Else prove '..UptoSaid'. A law counts once. -/
mutual
def uptoBulk {H : Type} : DataW H → Nat
  | .lit (.string bytes) => bytes.length + 1
  | .lit _ => 1
  | .nil => 1
  | .ptr d => uptoBulk d + 1
  | .slice elems spare => uptoBulkAll elems + uptoBulkAll spare + 1
  | .agg parts => uptoBulkAll parts + 1
  | .iface _ d => uptoBulk d + 1
  | .map entries => uptoBulkEntries entries + 1
  | .held _ => 1
def uptoBulkAll {H : Type} : List (DataW H) → Nat
  | [] => 0
  | d :: r => uptoBulk d + uptoBulkAll r
def uptoBulkEntries {H : Type} : List (Lit × DataW H) → Nat
  | [] => 0
  | x :: r => uptoBulkEntry x + uptoBulkEntries r
def uptoBulkEntry {H : Type} : Lit × DataW H → Nat
  | (.string bytes, d) => bytes.length + uptoBulk d + 1
  | (_, d) => uptoBulk d + 1
 end
def uptoSmall : (H : Type) → List (DataW H) → Bool := fun _ ds => decide (uptoBulkAll ds ≤ 1048576)
def OpenSpec.upto (s : _root_.Go.ChangeSpec) : _root_.Go.OpenSpec := { _root_.Go.OpenSpec.ofChange s with cond := some uptoSmall }

/-- 'palinodelaw13.ComposeTells', WHERE WHAT IT READS IS OF BULK AT MOST 1048576: true; the input reads as it did. -/
def composeTellsUptoRow : OpenClaim := { program := "ytjnhbaphmhbaaaa", sum := "83718bbcaa232bba1aba4cd5c24dfd4aaa26fdd7b354d2bfe1e4eee110a75d8d", func := "palinode/palinodelaw13.ComposeTells", spec := "composeTells", apart := false, narrowed := true }
def ComposeTellsUptoSaid : Prop := composeTellsUptoRow.holds Try.pinned (OpenSpec.upto composeTellsSpec)

/-- 'palinodelaw13.ComposeInverts', WHERE WHAT IT READS IS OF BULK AT MOST 1048576: true; the input reads as it did. -/
def composeInvertsUptoRow : OpenClaim := { program := "ytjnhbaphmhbaaaa", sum := "83718bbcaa232bba1aba4cd5c24dfd4aaa26fdd7b354d2bfe1e4eee110a75d8d", func := "palinode/palinodelaw13.ComposeInverts", spec := "composeInverts", apart := false, narrowed := true }
def ComposeInvertsUptoSaid : Prop := composeInvertsUptoRow.holds Try.pinned (OpenSpec.upto composeInvertsSpec)

/-- 'palinodelaw13.ComposeBoth', WHERE WHAT IT READS IS OF BULK AT MOST 1048576: true; the input reads as it did. -/
def composeBothUptoRow : OpenClaim := { program := "ytjnhbaphmhbaaaa", sum := "83718bbcaa232bba1aba4cd5c24dfd4aaa26fdd7b354d2bfe1e4eee110a75d8d", func := "palinode/palinodelaw13.ComposeBoth", spec := "composeBoth", apart := false, narrowed := true }
def ComposeBothUptoSaid : Prop := composeBothUptoRow.holds Try.pinned (OpenSpec.upto composeBothSpec)

/-- 'palinodelaw13.ComposePlain', WHERE WHAT IT READS IS OF BULK AT MOST 1048576: true; the input reads as it did. -/
def composePlainUptoRow : OpenClaim := { program := "ytjnhbaphmhbaaaa", sum := "83718bbcaa232bba1aba4cd5c24dfd4aaa26fdd7b354d2bfe1e4eee110a75d8d", func := "palinode/palinodelaw13.ComposePlain", spec := "composePlain", apart := false, narrowed := true }
def ComposePlainUptoSaid : Prop := composePlainUptoRow.holds Try.pinned (OpenSpec.upto composePlainSpec)

/-- 'palinodelaw13.ComposeThree', WHERE WHAT IT READS IS OF BULK AT MOST 1048576: true; the input reads as it did. -/
def composeThreeUptoRow : OpenClaim := { program := "ytjnhbaphmhbaaaa", sum := "83718bbcaa232bba1aba4cd5c24dfd4aaa26fdd7b354d2bfe1e4eee110a75d8d", func := "palinode/palinodelaw13.ComposeThree", spec := "composeThree", apart := false, narrowed := true }
def ComposeThreeUptoSaid : Prop := composeThreeUptoRow.holds Try.pinned (OpenSpec.upto composeThreeSpec)

/-- 'palinodelaw13.ComposeUndoes', WHERE WHAT IT READS IS OF BULK AT MOST 1048576: true; the input reads as it did. -/
def composeUndoesUptoRow : OpenClaim := { program := "ytjnhbaphmhbaaaa", sum := "83718bbcaa232bba1aba4cd5c24dfd4aaa26fdd7b354d2bfe1e4eee110a75d8d", func := "palinode/palinodelaw13.ComposeUndoes", spec := "composeUndoes", apart := false, narrowed := true }
def ComposeUndoesUptoSaid : Prop := composeUndoesUptoRow.holds Try.pinned (OpenSpec.upto composeUndoesSpec)

end Rows
end Go.Proofs.Ytjnhbaphmhbaaaa

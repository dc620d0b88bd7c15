/-
  No cell of these rows narrows 'for every input' (looked for: loops, veiled, ifaces, maps, wideKeys, modest, calm, conditions, laid).
  DERIVED. THE GIVEN ROWS OF THIS SEAT. 9 by the template 'for every input the law returns true; each argument reads behind the call as it read before'; 0 by the template 'total and deterministic' (their statements: YtlogcamkdjdocaaTotals.lean).
  GIVEN WITH THE SEED: the statements are not yours to turn. If you find one false, say at which input.
  Laid BY PROGRAM, IN A SANDBOX (cutbox-rows.mjs): the forced cells as the released guide's own fill.sh prints them over the translation a8462265789e2d4f… (all of the seat's roots in one cut). By AI agents, Wed Nov 11 2026. No macro, syntax, notation, axiom, sorry.
-/
import Derived.Test.YtlogcamkdjdocaaChecked
import GoSem.Claim
import GoSem.ClaimJoined
import GoSem.ClaimMapViews
import Derived.JoinedTies
import Derived.KernelRfl
namespace Go.Proofs.Ytlogcamkdjdocaa
/- THE CELL 'sum', in the pinned program and in every row, IS THE sha256 OF THE DUMP (.gsa) THAT YtlogcamkdjdocaaProg.lean LOADS. Nothing in Lean hashes anything: it is a label: what it is worth is what the hold of that sum in a sandbox is worth. -/
noncomputable def Try.pinned : Pinned := { name := "ytlogcamkdjdocaa", sum := "a8462265789e2d4f36f615e422545f07708a4fcbd30bd11afb869c2205b4ddb9", checked := Try.checked }
namespace Rows
def none {H : Type} : Left H := { results := [], args := [] }

/-- 'palinodelaw7.SubsetWrong': WHATEVER THE INPUT: true; the input reads as it did. -/
def subsetWrongSpec : ChangeSpec := { name := "subsetWrong", fn := fun _ => fun
  | [d1, d2, d3, d4] => { results := [.lit (.bool true)], args := [d1, d2, d3, d4] }
  | _ => none }
def subsetWrongRow : OpenClaim := { program := "ytlogcamkdjdocaa", sum := "a8462265789e2d4f36f615e422545f07708a4fcbd30bd11afb869c2205b4ddb9", func := "palinode/palinodelaw7.SubsetWrong", spec := "subsetWrong", apart := false }
def SubsetWrongSaid : Prop := subsetWrongRow.holds Try.pinned (OpenSpec.ofChange subsetWrongSpec)

/-- ITS FALSE NEIGHBOUR: 'it returns false'. Refute it at one input. -/
def subsetWrongWrong : ChangeSpec := { name := "subsetWrong", fn := fun _ => fun
  | [d1, d2, d3, d4] => { results := [.lit (.bool false)], args := [d1, d2, d3, d4] }
  | _ => none }
def SubsetWrongWrongFalsely : Prop := subsetWrongRow.holds Try.pinned (OpenSpec.ofChange subsetWrongWrong)

/-- 'palinodelaw7.SubsetRuns': WHATEVER THE INPUT: true; the input reads as it did. -/
def subsetRunsSpec : ChangeSpec := { name := "subsetRuns", fn := fun _ => fun
  | [d1, d2, d3] => { results := [.lit (.bool true)], args := [d1, d2, d3] }
  | _ => none }
def subsetRunsRow : OpenClaim := { program := "ytlogcamkdjdocaa", sum := "a8462265789e2d4f36f615e422545f07708a4fcbd30bd11afb869c2205b4ddb9", func := "palinode/palinodelaw7.SubsetRuns", spec := "subsetRuns", apart := false }
def SubsetRunsSaid : Prop := subsetRunsRow.holds Try.pinned (OpenSpec.ofChange subsetRunsSpec)

/-- ITS FALSE NEIGHBOUR: 'it returns false'. Refute it at one input. -/
def subsetRunsWrong : ChangeSpec := { name := "subsetRuns", fn := fun _ => fun
  | [d1, d2, d3] => { results := [.lit (.bool false)], args := [d1, d2, d3] }
  | _ => none }
def SubsetRunsWrongFalsely : Prop := subsetRunsRow.holds Try.pinned (OpenSpec.ofChange subsetRunsWrong)

/-- 'palinodelaw7.SubsetWith': WHATEVER THE INPUT: true; the input reads as it did. -/
def subsetWithSpec : ChangeSpec := { name := "subsetWith", fn := fun _ => fun
  | [d1, d2, d3, d4, d5] => { results := [.lit (.bool true)], args := [d1, d2, d3, d4, d5] }
  | _ => none }
def subsetWithRow : OpenClaim := { program := "ytlogcamkdjdocaa", sum := "a8462265789e2d4f36f615e422545f07708a4fcbd30bd11afb869c2205b4ddb9", func := "palinode/palinodelaw7.SubsetWith", spec := "subsetWith", unfollowed := true, recurses := true, apart := false }
def SubsetWithSaid : Prop := subsetWithRow.holds Try.pinned (OpenSpec.ofChange subsetWithSpec)

/-- ITS FALSE NEIGHBOUR: 'it returns false'. Refute it at one input. -/
def subsetWithWrong : ChangeSpec := { name := "subsetWith", fn := fun _ => fun
  | [d1, d2, d3, d4, d5] => { results := [.lit (.bool false)], args := [d1, d2, d3, d4, d5] }
  | _ => none }
def SubsetWithWrongFalsely : Prop := subsetWithRow.holds Try.pinned (OpenSpec.ofChange subsetWithWrong)

/-- 'palinodelaw7.SubsetOrder': WHATEVER THE INPUT: true; the input reads as it did. -/
def subsetOrderSpec : ChangeSpec := { name := "subsetOrder", fn := fun _ => fun
  | [d1, d2, d3, d4, d5, d6] => { results := [.lit (.bool true)], args := [d1, d2, d3, d4, d5, d6] }
  | _ => none }
def subsetOrderRow : OpenClaim := { program := "ytlogcamkdjdocaa", sum := "a8462265789e2d4f36f615e422545f07708a4fcbd30bd11afb869c2205b4ddb9", func := "palinode/palinodelaw7.SubsetOrder", spec := "subsetOrder", unfollowed := true, recurses := true, apart := false }
def SubsetOrderSaid : Prop := subsetOrderRow.holds Try.pinned (OpenSpec.ofChange subsetOrderSpec)

/-- ITS FALSE NEIGHBOUR: 'it returns false'. Refute it at one input. -/
def subsetOrderWrong : ChangeSpec := { name := "subsetOrder", fn := fun _ => fun
  | [d1, d2, d3, d4, d5, d6] => { results := [.lit (.bool false)], args := [d1, d2, d3, d4, d5, d6] }
  | _ => none }
def SubsetOrderWrongFalsely : Prop := subsetOrderRow.holds Try.pinned (OpenSpec.ofChange subsetOrderWrong)

/-- 'palinodelaw9.MapperTells': WHATEVER THE INPUT: true; the input reads as it did. -/
def mapperTellsSpec : ChangeSpec := { name := "mapperTells", fn := fun _ => fun
  | [d1, d2] => { results := [.lit (.bool true)], args := [d1, d2] }
  | _ => none }
def mapperTellsRow : OpenClaim := { program := "ytlogcamkdjdocaa", sum := "a8462265789e2d4f36f615e422545f07708a4fcbd30bd11afb869c2205b4ddb9", func := "palinode/palinodelaw9.MapperTells", spec := "mapperTells", apart := false }
def MapperTellsSaid : Prop := mapperTellsRow.holds Try.pinned (OpenSpec.ofChange mapperTellsSpec)

/-- ITS FALSE NEIGHBOUR: 'it returns false'. Refute it at one input. -/
def mapperTellsWrong : ChangeSpec := { name := "mapperTells", fn := fun _ => fun
  | [d1, d2] => { results := [.lit (.bool false)], args := [d1, d2] }
  | _ => none }
def MapperTellsWrongFalsely : Prop := mapperTellsRow.holds Try.pinned (OpenSpec.ofChange mapperTellsWrong)

/-- 'palinodelaw7.SubsetPlays': WHATEVER THE INPUT: true; the input reads as it did. -/
def subsetPlaysSpec : ChangeSpec := { name := "subsetPlays", fn := fun _ => fun
  | [d1, d2] => { results := [.lit (.bool true)], args := [d1, d2] }
  | _ => none }
def subsetPlaysRow : OpenClaim := { program := "ytlogcamkdjdocaa", sum := "a8462265789e2d4f36f615e422545f07708a4fcbd30bd11afb869c2205b4ddb9", func := "palinode/palinodelaw7.SubsetPlays", spec := "subsetPlays", unfollowed := true, recurses := true, apart := false }
def SubsetPlaysSaid : Prop := subsetPlaysRow.holds Try.pinned (OpenSpec.ofChange subsetPlaysSpec)

/-- ITS FALSE NEIGHBOUR: 'it returns false'. Refute it at one input. -/
def subsetPlaysWrong : ChangeSpec := { name := "subsetPlays", fn := fun _ => fun
  | [d1, d2] => { results := [.lit (.bool false)], args := [d1, d2] }
  | _ => none }
def SubsetPlaysWrongFalsely : Prop := subsetPlaysRow.holds Try.pinned (OpenSpec.ofChange subsetPlaysWrong)

/-- 'palinodelaw9.MapperOrder': WHATEVER THE INPUT: true; the input reads as it did. -/
def mapperOrderSpec : ChangeSpec := { name := "mapperOrder", fn := fun _ => fun
  | [d] => { results := [.lit (.bool true)], args := [d] }
  | _ => none }
def mapperOrderRow : OpenClaim := { program := "ytlogcamkdjdocaa", sum := "a8462265789e2d4f36f615e422545f07708a4fcbd30bd11afb869c2205b4ddb9", func := "palinode/palinodelaw9.MapperOrder", spec := "mapperOrder", apart := false }
def MapperOrderSaid : Prop := mapperOrderRow.holds Try.pinned (OpenSpec.ofChange mapperOrderSpec)

/-- ITS FALSE NEIGHBOUR: 'it returns false'. Refute it at one input. -/
def mapperOrderWrong : ChangeSpec := { name := "mapperOrder", fn := fun _ => fun
  | [d] => { results := [.lit (.bool false)], args := [d] }
  | _ => none }
def MapperOrderWrongFalsely : Prop := mapperOrderRow.holds Try.pinned (OpenSpec.ofChange mapperOrderWrong)

/-- 'palinodelaw9.MapperBack': WHATEVER THE INPUT: true; the input reads as it did. -/
def mapperBackSpec : ChangeSpec := { name := "mapperBack", fn := fun _ => fun
  | [d] => { results := [.lit (.bool true)], args := [d] }
  | _ => none }
def mapperBackRow : OpenClaim := { program := "ytlogcamkdjdocaa", sum := "a8462265789e2d4f36f615e422545f07708a4fcbd30bd11afb869c2205b4ddb9", func := "palinode/palinodelaw9.MapperBack", spec := "mapperBack", apart := false }
def MapperBackSaid : Prop := mapperBackRow.holds Try.pinned (OpenSpec.ofChange mapperBackSpec)

/-- ITS FALSE NEIGHBOUR: 'it returns false'. Refute it at one input. -/
def mapperBackWrong : ChangeSpec := { name := "mapperBack", fn := fun _ => fun
  | [d] => { results := [.lit (.bool false)], args := [d] }
  | _ => none }
def MapperBackWrongFalsely : Prop := mapperBackRow.holds Try.pinned (OpenSpec.ofChange mapperBackWrong)

/-- 'palinodelaw9.MapperPlain': WHATEVER THE INPUT: true; the input reads as it did. -/
def mapperPlainSpec : ChangeSpec := { name := "mapperPlain", fn := fun _ => fun
  | [d1, d2] => { results := [.lit (.bool true)], args := [d1, d2] }
  | _ => none }
def mapperPlainRow : OpenClaim := { program := "ytlogcamkdjdocaa", sum := "a8462265789e2d4f36f615e422545f07708a4fcbd30bd11afb869c2205b4ddb9", func := "palinode/palinodelaw9.MapperPlain", spec := "mapperPlain", apart := false }
def MapperPlainSaid : Prop := mapperPlainRow.holds Try.pinned (OpenSpec.ofChange mapperPlainSpec)

/-- ITS FALSE NEIGHBOUR: 'it returns false'. Refute it at one input. -/
def mapperPlainWrong : ChangeSpec := { name := "mapperPlain", fn := fun _ => fun
  | [d1, d2] => { results := [.lit (.bool false)], args := [d1, d2] }
  | _ => none }
def MapperPlainWrongFalsely : Prop := mapperPlainRow.holds Try.pinned (OpenSpec.ofChange mapperPlainWrong)

/- THE SECOND FORM. 'bulk': how many values and letters a reading holds, each counted each time it is reached (what is shared counts as often as it is met; a slice's spare places count too). A statement '..UptoSaid' is the law's where the arguments, and the package variables that the reading takes, are together of bulk at most 1048576: NARROWER than '..Said'. Prove '..Said' where nothing that the law and all that it calls make is longer than what came in: it says more and counts as full. Else prove '..UptoSaid'. A law counts once. -/
mutual
def uptoBulk {H : Type} : DataW H → Nat
  | .lit (.string bytes) => bytes.length + 1
  | .lit _ => 1
  | .nil => 1
  | .ptr d => uptoBulk d + 1
  | .slice elems spare => uptoBulkAll elems + uptoBulkAll spare + 1
  | .agg parts => uptoBulkAll parts + 1
  | .iface _ d => uptoBulk d + 1
  | .map entries => uptoBulkEntries entries + 1
  | .held _ => 1
def uptoBulkAll {H : Type} : List (DataW H) → Nat
  | [] => 0
  | d :: r => uptoBulk d + uptoBulkAll r
def uptoBulkEntries {H : Type} : List (Lit × DataW H) → Nat
  | [] => 0
  | x :: r => uptoBulkEntry x + uptoBulkEntries r
def uptoBulkEntry {H : Type} : Lit × DataW H → Nat
  | (.string bytes, d) => bytes.length + uptoBulk d + 1
  | (_, d) => uptoBulk d + 1
 end
def uptoSmall : (H : Type) → List (DataW H) → Bool := fun _ ds => decide (uptoBulkAll ds ≤ 1048576)
def OpenSpec.upto (s : _root_.Go.ChangeSpec) : _root_.Go.OpenSpec := { _root_.Go.OpenSpec.ofChange s with cond := some uptoSmall }

/-- 'palinodelaw7.SubsetWrong', WHERE WHAT IT READS IS OF BULK AT MOST 1048576: true; the input reads as it did. -/
def subsetWrongUptoRow : OpenClaim := { program := "ytlogcamkdjdocaa", sum := "a8462265789e2d4f36f615e422545f07708a4fcbd30bd11afb869c2205b4ddb9", func := "palinode/palinodelaw7.SubsetWrong", spec := "subsetWrong", apart := false, narrowed := true }
def SubsetWrongUptoSaid : Prop := subsetWrongUptoRow.holds Try.pinned (OpenSpec.upto subsetWrongSpec)

/-- 'palinodelaw7.SubsetRuns', WHERE WHAT IT READS IS OF BULK AT MOST 1048576: true; the input reads as it did. -/
def subsetRunsUptoRow : OpenClaim := { program := "ytlogcamkdjdocaa", sum := "a8462265789e2d4f36f615e422545f07708a4fcbd30bd11afb869c2205b4ddb9", func := "palinode/palinodelaw7.SubsetRuns", spec := "subsetRuns", apart := false, narrowed := true }
def SubsetRunsUptoSaid : Prop := subsetRunsUptoRow.holds Try.pinned (OpenSpec.upto subsetRunsSpec)

/-- 'palinodelaw7.SubsetWith', WHERE WHAT IT READS IS OF BULK AT MOST 1048576: true; the input reads as it did. -/
def subsetWithUptoRow : OpenClaim := { program := "ytlogcamkdjdocaa", sum := "a8462265789e2d4f36f615e422545f07708a4fcbd30bd11afb869c2205b4ddb9", func := "palinode/palinodelaw7.SubsetWith", spec := "subsetWith", unfollowed := true, recurses := true, apart := false, narrowed := true }
def SubsetWithUptoSaid : Prop := subsetWithUptoRow.holds Try.pinned (OpenSpec.upto subsetWithSpec)

/-- 'palinodelaw7.SubsetOrder', WHERE WHAT IT READS IS OF BULK AT MOST 1048576: true; the input reads as it did. -/
def subsetOrderUptoRow : OpenClaim := { program := "ytlogcamkdjdocaa", sum := "a8462265789e2d4f36f615e422545f07708a4fcbd30bd11afb869c2205b4ddb9", func := "palinode/palinodelaw7.SubsetOrder", spec := "subsetOrder", unfollowed := true, recurses := true, apart := false, narrowed := true }
def SubsetOrderUptoSaid : Prop := subsetOrderUptoRow.holds Try.pinned (OpenSpec.upto subsetOrderSpec)

/-- 'palinodelaw9.MapperTells', WHERE WHAT IT READS IS OF BULK AT MOST 1048576: true; the input reads as it did. -/
def mapperTellsUptoRow : OpenClaim := { program := "ytlogcamkdjdocaa", sum := "a8462265789e2d4f36f615e422545f07708a4fcbd30bd11afb869c2205b4ddb9", func := "palinode/palinodelaw9.MapperTells", spec := "mapperTells", apart := false, narrowed := true }
def MapperTellsUptoSaid : Prop := mapperTellsUptoRow.holds Try.pinned (OpenSpec.upto mapperTellsSpec)

/-- 'palinodelaw7.SubsetPlays', WHERE WHAT IT READS IS OF BULK AT MOST 1048576: true; the input reads as it did. -/
def subsetPlaysUptoRow : OpenClaim := { program := "ytlogcamkdjdocaa", sum := "a8462265789e2d4f36f615e422545f07708a4fcbd30bd11afb869c2205b4ddb9", func := "palinode/palinodelaw7.SubsetPlays", spec := "subsetPlays", unfollowed := true, recurses := true, apart := false, narrowed := true }
def SubsetPlaysUptoSaid : Prop := subsetPlaysUptoRow.holds Try.pinned (OpenSpec.upto subsetPlaysSpec)

/-- 'palinodelaw9.MapperOrder', WHERE WHAT IT READS IS OF BULK AT MOST 1048576: true; the input reads as it did. -/
def mapperOrderUptoRow : OpenClaim := { program := "ytlogcamkdjdocaa", sum := "a8462265789e2d4f36f615e422545f07708a4fcbd30bd11afb869c2205b4ddb9", func := "palinode/palinodelaw9.MapperOrder", spec := "mapperOrder", apart := false, narrowed := true }
def MapperOrderUptoSaid : Prop := mapperOrderUptoRow.holds Try.pinned (OpenSpec.upto mapperOrderSpec)

/-- 'palinodelaw9.MapperBack', WHERE WHAT IT READS IS OF BULK AT MOST 1048576: true; the input reads as it did. -/
def mapperBackUptoRow : OpenClaim := { program := "ytlogcamkdjdocaa", sum := "a8462265789e2d4f36f615e422545f07708a4fcbd30bd11afb869c2205b4ddb9", func := "palinode/palinodelaw9.MapperBack", spec := "mapperBack", apart := false, narrowed := true }
def MapperBackUptoSaid : Prop := mapperBackUptoRow.holds Try.pinned (OpenSpec.upto mapperBackSpec)

/-- 'palinodelaw9.MapperPlain', WHERE WHAT IT READS IS OF BULK AT MOST 1048576: true; the input reads as it did. -/
def mapperPlainUptoRow : OpenClaim := { program := "ytlogcamkdjdocaa", sum := "a8462265789e2d4f36f615e422545f07708a4fcbd30bd11afb869c2205b4ddb9", func := "palinode/palinodelaw9.MapperPlain", spec := "mapperPlain", apart := false, narrowed := true }
def MapperPlainUptoSaid : Prop := mapperPlainUptoRow.holds Try.pinned (OpenSpec.upto mapperPlainSpec)

end Rows
end Go.Proofs.Ytlogcamkdjdocaa

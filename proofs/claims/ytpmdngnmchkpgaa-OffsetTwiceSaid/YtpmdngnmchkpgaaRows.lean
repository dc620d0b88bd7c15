/-
  No cell of these rows narrows 'for every input' (looked for: loops, veiled, ifaces, maps, wideKeys, modest, calm, conditions, laid).
  DERIVED. THE GIVEN ROWS OF THIS SEAT. 5 by the template 'for every input the law returns true; each argument reads behind the call as it read before'; 0 by the template 'total and deterministic' (their statements: YtpmdngnmchkpgaaTotals.lean).
  GIVEN WITH THE SEED: the statements are not yours to turn. If you find one false, say at which input.
  Laid BY PROGRAM, IN A SANDBOX (cutbox-rows.mjs): the forced cells as the released guide's own fill.sh prints them over the translation f9d0085258d7ae5a… (all of the seat's roots in one cut). By AI agents, Wed Nov 11 2026. No macro, syntax, notation, axiom, sorry.
-/
import Derived.Test.YtpmdngnmchkpgaaChecked
import GoSem.Claim
import GoSem.ClaimJoined
import GoSem.ClaimMapViews
import Derived.JoinedTies
import Derived.KernelRfl
namespace Go.Proofs.Ytpmdngnmchkpgaa
/- THE CELL 'sum', in the pinned program and in every row, IS THE sha256 OF THE DUMP (.gsa) THAT YtpmdngnmchkpgaaProg.lean LOADS. Nothing in Lean hashes anything: it is a label: what it is worth is what the hold of that sum in a sandbox is worth. -/
noncomputable def Try.pinned : Pinned := { name := "ytpmdngnmchkpgaa", sum := "f9d0085258d7ae5a2ebc2b0068af9e129c1df2fd09b757bd9a4887d3d4952a97", checked := Try.checked }
namespace Rows
def none {H : Type} : Left H := { results := [], args := [] }

/-- 'palinodelaw14.OffsetTells': WHATEVER THE INPUT: true; the input reads as it did. -/
def offsetTellsSpec : ChangeSpec := { name := "offsetTells", fn := fun _ => fun
  | [d1, d2, d3] => { results := [.lit (.bool true)], args := [d1, d2, d3] }
  | _ => none }
def offsetTellsRow : OpenClaim := { program := "ytpmdngnmchkpgaa", sum := "f9d0085258d7ae5a2ebc2b0068af9e129c1df2fd09b757bd9a4887d3d4952a97", func := "palinode/palinodelaw14.OffsetTells", spec := "offsetTells", apart := false }
def OffsetTellsSaid : Prop := offsetTellsRow.holds Try.pinned (OpenSpec.ofChange offsetTellsSpec)

/-- ITS FALSE NEIGHBOUR: 'it returns false'. Refute it at one input. -/
def offsetTellsWrong : ChangeSpec := { name := "offsetTells", fn := fun _ => fun
  | [d1, d2, d3] => { results := [.lit (.bool false)], args := [d1, d2, d3] }
  | _ => none }
def OffsetTellsWrongFalsely : Prop := offsetTellsRow.holds Try.pinned (OpenSpec.ofChange offsetTellsWrong)

/-- 'palinodelaw14.OffsetOrder': WHATEVER THE INPUT: true; the input reads as it did. -/
def offsetOrderSpec : ChangeSpec := { name := "offsetOrder", fn := fun _ => fun
  | [d1, d2] => { results := [.lit (.bool true)], args := [d1, d2] }
  | _ => none }
def offsetOrderRow : OpenClaim := { program := "ytpmdngnmchkpgaa", sum := "f9d0085258d7ae5a2ebc2b0068af9e129c1df2fd09b757bd9a4887d3d4952a97", func := "palinode/palinodelaw14.OffsetOrder", spec := "offsetOrder", apart := false }
def OffsetOrderSaid : Prop := offsetOrderRow.holds Try.pinned (OpenSpec.ofChange offsetOrderSpec)

/-- ITS FALSE NEIGHBOUR: 'it returns false'. Refute it at one input. -/
def offsetOrderWrong : ChangeSpec := { name := "offsetOrder", fn := fun _ => fun
  | [d1, d2] => { results := [.lit (.bool false)], args := [d1, d2] }
  | _ => none }
def OffsetOrderWrongFalsely : Prop := offsetOrderRow.holds Try.pinned (OpenSpec.ofChange offsetOrderWrong)

/-- 'palinodelaw14.OffsetPlain': WHATEVER THE INPUT: true; the input reads as it did. -/
def offsetPlainSpec : ChangeSpec := { name := "offsetPlain", fn := fun _ => fun
  | [d1, d2, d3, d4, d5] => { results := [.lit (.bool true)], args := [d1, d2, d3, d4, d5] }
  | _ => none }
def offsetPlainRow : OpenClaim := { program := "ytpmdngnmchkpgaa", sum := "f9d0085258d7ae5a2ebc2b0068af9e129c1df2fd09b757bd9a4887d3d4952a97", func := "palinode/palinodelaw14.OffsetPlain", spec := "offsetPlain", apart := false }
def OffsetPlainSaid : Prop := offsetPlainRow.holds Try.pinned (OpenSpec.ofChange offsetPlainSpec)

/-- ITS FALSE NEIGHBOUR: 'it returns false'. Refute it at one input. -/
def offsetPlainWrong : ChangeSpec := { name := "offsetPlain", fn := fun _ => fun
  | [d1, d2, d3, d4, d5] => { results := [.lit (.bool false)], args := [d1, d2, d3, d4, d5] }
  | _ => none }
def OffsetPlainWrongFalsely : Prop := offsetPlainRow.holds Try.pinned (OpenSpec.ofChange offsetPlainWrong)

/-- 'palinodelaw14.OffsetMarks': WHATEVER THE INPUT: true; the input reads as it did. -/
def offsetMarksSpec : ChangeSpec := { name := "offsetMarks", fn := fun _ => fun
  | [d1, d2, d3, d4] => { results := [.lit (.bool true)], args := [d1, d2, d3, d4] }
  | _ => none }
def offsetMarksRow : OpenClaim := { program := "ytpmdngnmchkpgaa", sum := "f9d0085258d7ae5a2ebc2b0068af9e129c1df2fd09b757bd9a4887d3d4952a97", func := "palinode/palinodelaw14.OffsetMarks", spec := "offsetMarks", apart := false }
def OffsetMarksSaid : Prop := offsetMarksRow.holds Try.pinned (OpenSpec.ofChange offsetMarksSpec)

/-- ITS FALSE NEIGHBOUR: 'it returns false'. Refute it at one input. -/
def offsetMarksWrong : ChangeSpec := { name := "offsetMarks", fn := fun _ => fun
  | [d1, d2, d3, d4] => { results := [.lit (.bool false)], args := [d1, d2, d3, d4] }
  | _ => none }
def OffsetMarksWrongFalsely : Prop := offsetMarksRow.holds Try.pinned (OpenSpec.ofChange offsetMarksWrong)

/-- 'palinodelaw14.OffsetTwice': WHATEVER THE INPUT: true; the input reads as it did. -/
def offsetTwiceSpec : ChangeSpec := { name := "offsetTwice", fn := fun _ => fun
  | [d1, d2, d3, d4, d5] => { results := [.lit (.bool true)], args := [d1, d2, d3, d4, d5] }
  | _ => none }
def offsetTwiceRow : OpenClaim := { program := "ytpmdngnmchkpgaa", sum := "f9d0085258d7ae5a2ebc2b0068af9e129c1df2fd09b757bd9a4887d3d4952a97", func := "palinode/palinodelaw14.OffsetTwice", spec := "offsetTwice", apart := false }
def OffsetTwiceSaid : Prop := offsetTwiceRow.holds Try.pinned (OpenSpec.ofChange offsetTwiceSpec)

/-- ITS FALSE NEIGHBOUR: 'it returns false'. Refute it at one input. -/
def offsetTwiceWrong : ChangeSpec := { name := "offsetTwice", fn := fun _ => fun
  | [d1, d2, d3, d4, d5] => { results := [.lit (.bool false)], args := [d1, d2, d3, d4, d5] }
  | _ => none }
def OffsetTwiceWrongFalsely : Prop := offsetTwiceRow.holds Try.pinned (OpenSpec.ofChange offsetTwiceWrong)

/- THE SECOND FORM. 'bulk': how many values and letters a reading holds, each counted each time it is reached (what is shared counts as often as it is met; a slice's spare places count too). A statement '..UptoSaid' is the law's where the arguments, and the package variables that the reading takes, are together of bulk at most 1048576: NARROWER than '..Said'. Prove '..Said' where nothing that the law and all that it calls make is longer than what came in: it says more and counts as full. Else prove '..UptoSaid'. A law counts once. -/
mutual
def uptoBulk {H : Type} : DataW H → Nat
  | .lit (.string bytes) => bytes.length + 1
  | .lit _ => 1
  | .nil => 1
  | .ptr d => uptoBulk d + 1
  | .slice elems spare => uptoBulkAll elems + uptoBulkAll spare + 1
  | .agg parts => uptoBulkAll parts + 1
  | .iface _ d => uptoBulk d + 1
  | .map entries => uptoBulkEntries entries + 1
  | .held _ => 1
def uptoBulkAll {H : Type} : List (DataW H) → Nat
  | [] => 0
  | d :: r => uptoBulk d + uptoBulkAll r
def uptoBulkEntries {H : Type} : List (Lit × DataW H) → Nat
  | [] => 0
  | x :: r => uptoBulkEntry x + uptoBulkEntries r
def uptoBulkEntry {H : Type} : Lit × DataW H → Nat
  | (.string bytes, d) => bytes.length + uptoBulk d + 1
  | (_, d) => uptoBulk d + 1
 end
def uptoSmall : (H : Type) → List (DataW H) → Bool := fun _ ds => decide (uptoBulkAll ds ≤ 1048576)
def OpenSpec.upto (s : _root_.Go.ChangeSpec) : _root_.Go.OpenSpec := { _root_.Go.OpenSpec.ofChange s with cond := some uptoSmall }

/-- 'palinodelaw14.OffsetTells', WHERE WHAT IT READS IS OF BULK AT MOST 1048576: true; the input reads as it did. -/
def offsetTellsUptoRow : OpenClaim := { program := "ytpmdngnmchkpgaa", sum := "f9d0085258d7ae5a2ebc2b0068af9e129c1df2fd09b757bd9a4887d3d4952a97", func := "palinode/palinodelaw14.OffsetTells", spec := "offsetTells", apart := false, narrowed := true }
def OffsetTellsUptoSaid : Prop := offsetTellsUptoRow.holds Try.pinned (OpenSpec.upto offsetTellsSpec)

/-- 'palinodelaw14.OffsetOrder', WHERE WHAT IT READS IS OF BULK AT MOST 1048576: true; the input reads as it did. -/
def offsetOrderUptoRow : OpenClaim := { program := "ytpmdngnmchkpgaa", sum := "f9d0085258d7ae5a2ebc2b0068af9e129c1df2fd09b757bd9a4887d3d4952a97", func := "palinode/palinodelaw14.OffsetOrder", spec := "offsetOrder", apart := false, narrowed := true }
def OffsetOrderUptoSaid : Prop := offsetOrderUptoRow.holds Try.pinned (OpenSpec.upto offsetOrderSpec)

/-- 'palinodelaw14.OffsetPlain', WHERE WHAT IT READS IS OF BULK AT MOST 1048576: true; the input reads as it did. -/
def offsetPlainUptoRow : OpenClaim := { program := "ytpmdngnmchkpgaa", sum := "f9d0085258d7ae5a2ebc2b0068af9e129c1df2fd09b757bd9a4887d3d4952a97", func := "palinode/palinodelaw14.OffsetPlain", spec := "offsetPlain", apart := false, narrowed := true }
def OffsetPlainUptoSaid : Prop := offsetPlainUptoRow.holds Try.pinned (OpenSpec.upto offsetPlainSpec)

/-- 'palinodelaw14.OffsetMarks', WHERE WHAT IT READS IS OF BULK AT MOST 1048576: true; the input reads as it did. -/
def offsetMarksUptoRow : OpenClaim := { program := "ytpmdngnmchkpgaa", sum := "f9d0085258d7ae5a2ebc2b0068af9e129c1df2fd09b757bd9a4887d3d4952a97", func := "palinode/palinodelaw14.OffsetMarks", spec := "offsetMarks", apart := false, narrowed := true }
def OffsetMarksUptoSaid : Prop := offsetMarksUptoRow.holds Try.pinned (OpenSpec.upto offsetMarksSpec)

/-- 'palinodelaw14.OffsetTwice', WHERE WHAT IT READS IS OF BULK AT MOST 1048576: true; the input reads as it did. -/
def offsetTwiceUptoRow : OpenClaim := { program := "ytpmdngnmchkpgaa", sum := "f9d0085258d7ae5a2ebc2b0068af9e129c1df2fd09b757bd9a4887d3d4952a97", func := "palinode/palinodelaw14.OffsetTwice", spec := "offsetTwice", apart := false, narrowed := true }
def OffsetTwiceUptoSaid : Prop := offsetTwiceUptoRow.holds Try.pinned (OpenSpec.upto offsetTwiceSpec)

end Rows
end Go.Proofs.Ytpmdngnmchkpgaa

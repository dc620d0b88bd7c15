/-
  No cell of these rows narrows 'for every input' (looked for: loops, veiled, ifaces, maps, wideKeys, modest, calm, conditions, laid).
  DERIVED. THE GIVEN ROWS OF THIS SEAT. 7 by the template 'for every input the law returns true; each argument reads behind the call as it read before'; 0 by the template 'total and deterministic' (their statements: YtbjgcginkkcjcaaTotals.lean).
  GIVEN WITH THE SEED: the statements are not yours to turn. If you find one false, say at which input.
  Laid BY PROGRAM, IN A SANDBOX (cutbox-rows.mjs): the forced cells as the released guide's own fill.sh prints them over the translation 184fa03dd00bd326… (all of the seat's roots in one cut). By AI agents, Wed Nov 11 2026. No macro, syntax, notation, axiom, sorry.
-/
import Derived.Test.YtbjgcginkkcjcaaChecked
import GoSem.Claim
import GoSem.ClaimJoined
import GoSem.ClaimMapViews
import Derived.JoinedTies
import Derived.KernelRfl
namespace Go.Proofs.Ytbjgcginkkcjcaa
/- THE CELL 'sum', in the pinned program and in every row, IS THE sha256 OF THE DUMP (.gsa) THAT YtbjgcginkkcjcaaProg.lean LOADS. Nothing in Lean hashes anything: it is a label: what it is worth is what the hold of that sum in a sandbox is worth. -/
noncomputable def Try.pinned : Pinned := { name := "ytbjgcginkkcjcaa", sum := "184fa03dd00bd326cef350b7486cf08b561a520531d5d6ed65e26d5ddb595c7a", checked := Try.checked }
namespace Rows
def none {H : Type} : Left H := { results := [], args := [] }

/-- 'palinodelaw8.AlgebraDeletes': WHATEVER THE INPUT: true; the input reads as it did. -/
def algebraDeletesSpec : ChangeSpec := { name := "algebraDeletes", fn := fun _ => fun
  | [d1, d2] => { results := [.lit (.bool true)], args := [d1, d2] }
  | _ => none }
def algebraDeletesRow : OpenClaim := { program := "ytbjgcginkkcjcaa", sum := "184fa03dd00bd326cef350b7486cf08b561a520531d5d6ed65e26d5ddb595c7a", func := "palinode/palinodelaw8.AlgebraDeletes", spec := "algebraDeletes", unfollowed := true, recurses := true, apart := false }
def AlgebraDeletesSaid : Prop := algebraDeletesRow.holds Try.pinned (OpenSpec.ofChange algebraDeletesSpec)

/-- ITS FALSE NEIGHBOUR: 'it returns false'. Refute it at one input. -/
def algebraDeletesWrong : ChangeSpec := { name := "algebraDeletes", fn := fun _ => fun
  | [d1, d2] => { results := [.lit (.bool false)], args := [d1, d2] }
  | _ => none }
def AlgebraDeletesWrongFalsely : Prop := algebraDeletesRow.holds Try.pinned (OpenSpec.ofChange algebraDeletesWrong)

/-- 'palinodelaw8.AlgebraTells': WHATEVER THE INPUT: true; the input reads as it did. -/
def algebraTellsSpec : ChangeSpec := { name := "algebraTells", fn := fun _ => fun
  | [d1, d2, d3] => { results := [.lit (.bool true)], args := [d1, d2, d3] }
  | _ => none }
def algebraTellsRow : OpenClaim := { program := "ytbjgcginkkcjcaa", sum := "184fa03dd00bd326cef350b7486cf08b561a520531d5d6ed65e26d5ddb595c7a", func := "palinode/palinodelaw8.AlgebraTells", spec := "algebraTells", unfollowed := true, recurses := true, apart := false }
def AlgebraTellsSaid : Prop := algebraTellsRow.holds Try.pinned (OpenSpec.ofChange algebraTellsSpec)

/-- ITS FALSE NEIGHBOUR: 'it returns false'. Refute it at one input. -/
def algebraTellsWrong : ChangeSpec := { name := "algebraTells", fn := fun _ => fun
  | [d1, d2, d3] => { results := [.lit (.bool false)], args := [d1, d2, d3] }
  | _ => none }
def AlgebraTellsWrongFalsely : Prop := algebraTellsRow.holds Try.pinned (OpenSpec.ofChange algebraTellsWrong)

/-- 'palinodelaw8.AlgebraWays': WHATEVER THE INPUT: true; the input reads as it did. -/
def algebraWaysSpec : ChangeSpec := { name := "algebraWays", fn := fun _ => fun
  | [d1, d2, d3] => { results := [.lit (.bool true)], args := [d1, d2, d3] }
  | _ => none }
def algebraWaysRow : OpenClaim := { program := "ytbjgcginkkcjcaa", sum := "184fa03dd00bd326cef350b7486cf08b561a520531d5d6ed65e26d5ddb595c7a", func := "palinode/palinodelaw8.AlgebraWays", spec := "algebraWays", unfollowed := true, recurses := true, apart := false }
def AlgebraWaysSaid : Prop := algebraWaysRow.holds Try.pinned (OpenSpec.ofChange algebraWaysSpec)

/-- ITS FALSE NEIGHBOUR: 'it returns false'. Refute it at one input. -/
def algebraWaysWrong : ChangeSpec := { name := "algebraWays", fn := fun _ => fun
  | [d1, d2, d3] => { results := [.lit (.bool false)], args := [d1, d2, d3] }
  | _ => none }
def AlgebraWaysWrongFalsely : Prop := algebraWaysRow.holds Try.pinned (OpenSpec.ofChange algebraWaysWrong)

/-- 'palinodelaw8.AlgebraSums': WHATEVER THE INPUT: true; the input reads as it did. -/
def algebraSumsSpec : ChangeSpec := { name := "algebraSums", fn := fun _ => fun
  | [d1, d2] => { results := [.lit (.bool true)], args := [d1, d2] }
  | _ => none }
def algebraSumsRow : OpenClaim := { program := "ytbjgcginkkcjcaa", sum := "184fa03dd00bd326cef350b7486cf08b561a520531d5d6ed65e26d5ddb595c7a", func := "palinode/palinodelaw8.AlgebraSums", spec := "algebraSums", unfollowed := true, recurses := true, apart := false }
def AlgebraSumsSaid : Prop := algebraSumsRow.holds Try.pinned (OpenSpec.ofChange algebraSumsSpec)

/-- ITS FALSE NEIGHBOUR: 'it returns false'. Refute it at one input. -/
def algebraSumsWrong : ChangeSpec := { name := "algebraSums", fn := fun _ => fun
  | [d1, d2] => { results := [.lit (.bool false)], args := [d1, d2] }
  | _ => none }
def AlgebraSumsWrongFalsely : Prop := algebraSumsRow.holds Try.pinned (OpenSpec.ofChange algebraSumsWrong)

/-- 'palinodelaw8.AlgebraLaws': WHATEVER THE INPUT: true; the input reads as it did. -/
def algebraLawsSpec : ChangeSpec := { name := "algebraLaws", fn := fun _ => fun
  | [d1, d2, d3] => { results := [.lit (.bool true)], args := [d1, d2, d3] }
  | _ => none }
def algebraLawsRow : OpenClaim := { program := "ytbjgcginkkcjcaa", sum := "184fa03dd00bd326cef350b7486cf08b561a520531d5d6ed65e26d5ddb595c7a", func := "palinode/palinodelaw8.AlgebraLaws", spec := "algebraLaws", unfollowed := true, recurses := true, apart := false }
def AlgebraLawsSaid : Prop := algebraLawsRow.holds Try.pinned (OpenSpec.ofChange algebraLawsSpec)

/-- ITS FALSE NEIGHBOUR: 'it returns false'. Refute it at one input. -/
def algebraLawsWrong : ChangeSpec := { name := "algebraLaws", fn := fun _ => fun
  | [d1, d2, d3] => { results := [.lit (.bool false)], args := [d1, d2, d3] }
  | _ => none }
def AlgebraLawsWrongFalsely : Prop := algebraLawsRow.holds Try.pinned (OpenSpec.ofChange algebraLawsWrong)

/-- 'palinodelaw8.AlgebraBack': WHATEVER THE INPUT: true; the input reads as it did. -/
def algebraBackSpec : ChangeSpec := { name := "algebraBack", fn := fun _ => fun
  | [d1, d2] => { results := [.lit (.bool true)], args := [d1, d2] }
  | _ => none }
def algebraBackRow : OpenClaim := { program := "ytbjgcginkkcjcaa", sum := "184fa03dd00bd326cef350b7486cf08b561a520531d5d6ed65e26d5ddb595c7a", func := "palinode/palinodelaw8.AlgebraBack", spec := "algebraBack", unfollowed := true, recurses := true, apart := false }
def AlgebraBackSaid : Prop := algebraBackRow.holds Try.pinned (OpenSpec.ofChange algebraBackSpec)

/-- ITS FALSE NEIGHBOUR: 'it returns false'. Refute it at one input. -/
def algebraBackWrong : ChangeSpec := { name := "algebraBack", fn := fun _ => fun
  | [d1, d2] => { results := [.lit (.bool false)], args := [d1, d2] }
  | _ => none }
def AlgebraBackWrongFalsely : Prop := algebraBackRow.holds Try.pinned (OpenSpec.ofChange algebraBackWrong)

/-- 'palinodelaw8.AlgebraNone': WHATEVER THE INPUT: true; the input reads as it did. -/
def algebraNoneSpec : ChangeSpec := { name := "algebraNone", fn := fun _ => fun
  | [d1, d2] => { results := [.lit (.bool true)], args := [d1, d2] }
  | _ => none }
def algebraNoneRow : OpenClaim := { program := "ytbjgcginkkcjcaa", sum := "184fa03dd00bd326cef350b7486cf08b561a520531d5d6ed65e26d5ddb595c7a", func := "palinode/palinodelaw8.AlgebraNone", spec := "algebraNone", unfollowed := true, recurses := true, apart := false }
def AlgebraNoneSaid : Prop := algebraNoneRow.holds Try.pinned (OpenSpec.ofChange algebraNoneSpec)

/-- ITS FALSE NEIGHBOUR: 'it returns false'. Refute it at one input. -/
def algebraNoneWrong : ChangeSpec := { name := "algebraNone", fn := fun _ => fun
  | [d1, d2] => { results := [.lit (.bool false)], args := [d1, d2] }
  | _ => none }
def AlgebraNoneWrongFalsely : Prop := algebraNoneRow.holds Try.pinned (OpenSpec.ofChange algebraNoneWrong)

/- THE SECOND FORM. 'bulk': how many values and letters a reading holds, each counted each time it is reached (what is shared counts as often as it is met; a slice's spare places count too). A statement '..UptoSaid' is the law's where the arguments, and the package variables that the reading takes, are together of bulk at most 1048576: NARROWER than '..Said'. Prove '..Said' where nothing that the law and all that it calls make is longer than what came in: it says more and counts as full. Else prove '..UptoSaid'. A law counts once. -/
mutual
def uptoBulk {H : Type} : DataW H → Nat
  | .lit (.string bytes) => bytes.length + 1
  | .lit _ => 1
  | .nil => 1
  | .ptr d => uptoBulk d + 1
  | .slice elems spare => uptoBulkAll elems + uptoBulkAll spare + 1
  | .agg parts => uptoBulkAll parts + 1
  | .iface _ d => uptoBulk d + 1
  | .map entries => uptoBulkEntries entries + 1
  | .held _ => 1
def uptoBulkAll {H : Type} : List (DataW H) → Nat
  | [] => 0
  | d :: r => uptoBulk d + uptoBulkAll r
def uptoBulkEntries {H : Type} : List (Lit × DataW H) → Nat
  | [] => 0
  | x :: r => uptoBulkEntry x + uptoBulkEntries r
def uptoBulkEntry {H : Type} : Lit × DataW H → Nat
  | (.string bytes, d) => bytes.length + uptoBulk d + 1
  | (_, d) => uptoBulk d + 1
 end
def uptoSmall : (H : Type) → List (DataW H) → Bool := fun _ ds => decide (uptoBulkAll ds ≤ 1048576)
def OpenSpec.upto (s : _root_.Go.ChangeSpec) : _root_.Go.OpenSpec := { _root_.Go.OpenSpec.ofChange s with cond := some uptoSmall }

/-- 'palinodelaw8.AlgebraDeletes', WHERE WHAT IT READS IS OF BULK AT MOST 1048576: true; the input reads as it did. -/
def algebraDeletesUptoRow : OpenClaim := { program := "ytbjgcginkkcjcaa", sum := "184fa03dd00bd326cef350b7486cf08b561a520531d5d6ed65e26d5ddb595c7a", func := "palinode/palinodelaw8.AlgebraDeletes", spec := "algebraDeletes", unfollowed := true, recurses := true, apart := false, narrowed := true }
def AlgebraDeletesUptoSaid : Prop := algebraDeletesUptoRow.holds Try.pinned (OpenSpec.upto algebraDeletesSpec)

/-- 'palinodelaw8.AlgebraTells', WHERE WHAT IT READS IS OF BULK AT MOST 1048576: true; the input reads as it did. -/
def algebraTellsUptoRow : OpenClaim := { program := "ytbjgcginkkcjcaa", sum := "184fa03dd00bd326cef350b7486cf08b561a520531d5d6ed65e26d5ddb595c7a", func := "palinode/palinodelaw8.AlgebraTells", spec := "algebraTells", unfollowed := true, recurses := true, apart := false, narrowed := true }
def AlgebraTellsUptoSaid : Prop := algebraTellsUptoRow.holds Try.pinned (OpenSpec.upto algebraTellsSpec)

/-- 'palinodelaw8.AlgebraWays', WHERE WHAT IT READS IS OF BULK AT MOST 1048576: true; the input reads as it did. -/
def algebraWaysUptoRow : OpenClaim := { program := "ytbjgcginkkcjcaa", sum := "184fa03dd00bd326cef350b7486cf08b561a520531d5d6ed65e26d5ddb595c7a", func := "palinode/palinodelaw8.AlgebraWays", spec := "algebraWays", unfollowed := true, recurses := true, apart := false, narrowed := true }
def AlgebraWaysUptoSaid : Prop := algebraWaysUptoRow.holds Try.pinned (OpenSpec.upto algebraWaysSpec)

/-- 'palinodelaw8.AlgebraSums', WHERE WHAT IT READS IS OF BULK AT MOST 1048576: true; the input reads as it did. -/
def algebraSumsUptoRow : OpenClaim := { program := "ytbjgcginkkcjcaa", sum := "184fa03dd00bd326cef350b7486cf08b561a520531d5d6ed65e26d5ddb595c7a", func := "palinode/palinodelaw8.AlgebraSums", spec := "algebraSums", unfollowed := true, recurses := true, apart := false, narrowed := true }
def AlgebraSumsUptoSaid : Prop := algebraSumsUptoRow.holds Try.pinned (OpenSpec.upto algebraSumsSpec)

/-- 'palinodelaw8.AlgebraLaws', WHERE WHAT IT READS IS OF BULK AT MOST 1048576: true; the input reads as it did. -/
def algebraLawsUptoRow : OpenClaim := { program := "ytbjgcginkkcjcaa", sum := "184fa03dd00bd326cef350b7486cf08b561a520531d5d6ed65e26d5ddb595c7a", func := "palinode/palinodelaw8.AlgebraLaws", spec := "algebraLaws", unfollowed := true, recurses := true, apart := false, narrowed := true }
def AlgebraLawsUptoSaid : Prop := algebraLawsUptoRow.holds Try.pinned (OpenSpec.upto algebraLawsSpec)

/-- 'palinodelaw8.AlgebraBack', WHERE WHAT IT READS IS OF BULK AT MOST 1048576: true; the input reads as it did. -/
def algebraBackUptoRow : OpenClaim := { program := "ytbjgcginkkcjcaa", sum := "184fa03dd00bd326cef350b7486cf08b561a520531d5d6ed65e26d5ddb595c7a", func := "palinode/palinodelaw8.AlgebraBack", spec := "algebraBack", unfollowed := true, recurses := true, apart := false, narrowed := true }
def AlgebraBackUptoSaid : Prop := algebraBackUptoRow.holds Try.pinned (OpenSpec.upto algebraBackSpec)

/-- 'palinodelaw8.AlgebraNone', WHERE WHAT IT READS IS OF BULK AT MOST 1048576: true; the input reads as it did. -/
def algebraNoneUptoRow : OpenClaim := { program := "ytbjgcginkkcjcaa", sum := "184fa03dd00bd326cef350b7486cf08b561a520531d5d6ed65e26d5ddb595c7a", func := "palinode/palinodelaw8.AlgebraNone", spec := "algebraNone", unfollowed := true, recurses := true, apart := false, narrowed := true }
def AlgebraNoneUptoSaid : Prop := algebraNoneUptoRow.holds Try.pinned (OpenSpec.upto algebraNoneSpec)

end Rows
end Go.Proofs.Ytbjgcginkkcjcaa

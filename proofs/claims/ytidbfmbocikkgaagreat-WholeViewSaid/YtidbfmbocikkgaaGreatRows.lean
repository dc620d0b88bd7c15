/-
  No cell of these rows narrows 'for every input' (looked for: loops, veiled, ifaces, maps, wideKeys, modest, calm, conditions, laid).
  DERIVED. THE GIVEN ROWS OF THIS SEAT. 11 by the template 'for every input the law returns true; each argument reads behind the call as it read before'; 0 by the template 'total and deterministic' (their statements: YtidbfmbocikkgaaGreatTotals.lean).
  GIVEN WITH THE SEED: the statements are not yours to turn. If you find one false, say at which input.
  Laid BY PROGRAM, IN A SANDBOX (cutbox-rows.mjs): the forced cells as the released guide's own fill.sh prints them over the translation a7fcf83233d77095… (all of the seat's roots in one cut). By AI agents, Wed Nov 11 2026. No macro, syntax, notation, axiom, sorry.
-/
import Derived.Test.YtidbfmbocikkgaaGreatChecked
import GoSem.Claim
import GoSem.ClaimJoined
import GoSem.ClaimMapViews
import Derived.JoinedTies
import Derived.KernelRfl
namespace Go.Proofs.YtidbfmbocikkgaaGreat
/- THE CELL 'sum', in the pinned program and in every row, IS THE sha256 OF THE DUMP (.gsa) THAT YtidbfmbocikkgaaGreatProg.lean LOADS. Nothing in Lean hashes anything: it is a label: what it is worth is what the hold of that sum in a sandbox is worth. -/
noncomputable def Tryz.pinned : Pinned := { name := "ytidbfmbocikkgaagreat", sum := "a7fcf83233d77095a8496ee6d2bf52e8bfc8bca9cefca8446fcce6362d0254a4", checked := Tryz.checked }
namespace Rows
def none {H : Type} : Left H := { results := [], args := [] }

/-- 'palinodetop.WholeMerge': WHATEVER THE INPUT: true; the input reads as it did. -/
def wholeMergeSpec : ChangeSpec := { name := "wholeMerge", fn := fun _ => fun
  | [d1, d2, d3, d4] => { results := [.lit (.bool true)], args := [d1, d2, d3, d4] }
  | _ => none }
def wholeMergeRow : OpenClaim := { program := "ytidbfmbocikkgaagreat", sum := "a7fcf83233d77095a8496ee6d2bf52e8bfc8bca9cefca8446fcce6362d0254a4", func := "palinode/palinodetop.WholeMerge", spec := "wholeMerge", inPlace := ["internal/abi.NoEscape", "maps.clone", "slices.overlaps[int]"], unfollowed := true, recurses := true, apart := false }
def WholeMergeSaid : Prop := wholeMergeRow.holds Tryz.pinned (OpenSpec.ofChange wholeMergeSpec)

/-- ITS FALSE NEIGHBOUR: 'it returns false'. Refute it at one input. -/
def wholeMergeWrong : ChangeSpec := { name := "wholeMerge", fn := fun _ => fun
  | [d1, d2, d3, d4] => { results := [.lit (.bool false)], args := [d1, d2, d3, d4] }
  | _ => none }
def WholeMergeWrongFalsely : Prop := wholeMergeRow.holds Tryz.pinned (OpenSpec.ofChange wholeMergeWrong)

/-- 'palinodetop.WholeSame': WHATEVER THE INPUT: true; the input reads as it did. -/
def wholeSameSpec : ChangeSpec := { name := "wholeSame", fn := fun _ => fun
  | [d1, d2, d3] => { results := [.lit (.bool true)], args := [d1, d2, d3] }
  | _ => none }
def wholeSameRow : OpenClaim := { program := "ytidbfmbocikkgaagreat", sum := "a7fcf83233d77095a8496ee6d2bf52e8bfc8bca9cefca8446fcce6362d0254a4", func := "palinode/palinodetop.WholeSame", spec := "wholeSame", inPlace := ["internal/abi.NoEscape", "maps.clone", "slices.overlaps[int]"], unfollowed := true, recurses := true, apart := false }
def WholeSameSaid : Prop := wholeSameRow.holds Tryz.pinned (OpenSpec.ofChange wholeSameSpec)

/-- ITS FALSE NEIGHBOUR: 'it returns false'. Refute it at one input. -/
def wholeSameWrong : ChangeSpec := { name := "wholeSame", fn := fun _ => fun
  | [d1, d2, d3] => { results := [.lit (.bool false)], args := [d1, d2, d3] }
  | _ => none }
def WholeSameWrongFalsely : Prop := wholeSameRow.holds Tryz.pinned (OpenSpec.ofChange wholeSameWrong)

/-- 'palinodetop.WholeInside': WHATEVER THE INPUT: true; the input reads as it did. -/
def wholeInsideSpec : ChangeSpec := { name := "wholeInside", fn := fun _ => fun
  | [d1, d2, d3] => { results := [.lit (.bool true)], args := [d1, d2, d3] }
  | _ => none }
def wholeInsideRow : OpenClaim := { program := "ytidbfmbocikkgaagreat", sum := "a7fcf83233d77095a8496ee6d2bf52e8bfc8bca9cefca8446fcce6362d0254a4", func := "palinode/palinodetop.WholeInside", spec := "wholeInside", inPlace := ["internal/abi.NoEscape", "maps.clone", "slices.overlaps[int]"], unfollowed := true, recurses := true, apart := false }
def WholeInsideSaid : Prop := wholeInsideRow.holds Tryz.pinned (OpenSpec.ofChange wholeInsideSpec)

/-- ITS FALSE NEIGHBOUR: 'it returns false'. Refute it at one input. -/
def wholeInsideWrong : ChangeSpec := { name := "wholeInside", fn := fun _ => fun
  | [d1, d2, d3] => { results := [.lit (.bool false)], args := [d1, d2, d3] }
  | _ => none }
def WholeInsideWrongFalsely : Prop := wholeInsideRow.holds Tryz.pinned (OpenSpec.ofChange wholeInsideWrong)

/-- 'palinodetop.WholeOrder': WHATEVER THE INPUT: true; the input reads as it did. -/
def wholeOrderSpec : ChangeSpec := { name := "wholeOrder", fn := fun _ => fun
  | [d1, d2, d3] => { results := [.lit (.bool true)], args := [d1, d2, d3] }
  | _ => none }
def wholeOrderRow : OpenClaim := { program := "ytidbfmbocikkgaagreat", sum := "a7fcf83233d77095a8496ee6d2bf52e8bfc8bca9cefca8446fcce6362d0254a4", func := "palinode/palinodetop.WholeOrder", spec := "wholeOrder", inPlace := ["internal/abi.NoEscape", "maps.clone", "slices.overlaps[int]"], unfollowed := true, recurses := true, apart := false }
def WholeOrderSaid : Prop := wholeOrderRow.holds Tryz.pinned (OpenSpec.ofChange wholeOrderSpec)

/-- ITS FALSE NEIGHBOUR: 'it returns false'. Refute it at one input. -/
def wholeOrderWrong : ChangeSpec := { name := "wholeOrder", fn := fun _ => fun
  | [d1, d2, d3] => { results := [.lit (.bool false)], args := [d1, d2, d3] }
  | _ => none }
def WholeOrderWrongFalsely : Prop := wholeOrderRow.holds Tryz.pinned (OpenSpec.ofChange wholeOrderWrong)

/-- 'palinodetop.WholeStyles': WHATEVER THE INPUT: true; the input reads as it did. -/
def wholeStylesSpec : ChangeSpec := { name := "wholeStyles", fn := fun _ => fun
  | [d1, d2, d3, d4] => { results := [.lit (.bool true)], args := [d1, d2, d3, d4] }
  | _ => none }
def wholeStylesRow : OpenClaim := { program := "ytidbfmbocikkgaagreat", sum := "a7fcf83233d77095a8496ee6d2bf52e8bfc8bca9cefca8446fcce6362d0254a4", func := "palinode/palinodetop.WholeStyles", spec := "wholeStyles", inPlace := ["internal/abi.NoEscape", "maps.clone", "slices.overlaps[int]"], unfollowed := true, recurses := true, apart := false }
def WholeStylesSaid : Prop := wholeStylesRow.holds Tryz.pinned (OpenSpec.ofChange wholeStylesSpec)

/-- ITS FALSE NEIGHBOUR: 'it returns false'. Refute it at one input. -/
def wholeStylesWrong : ChangeSpec := { name := "wholeStyles", fn := fun _ => fun
  | [d1, d2, d3, d4] => { results := [.lit (.bool false)], args := [d1, d2, d3, d4] }
  | _ => none }
def WholeStylesWrongFalsely : Prop := wholeStylesRow.holds Tryz.pinned (OpenSpec.ofChange wholeStylesWrong)

/-- 'palinodetop.WholeView': WHATEVER THE INPUT: true; the input reads as it did. -/
def wholeViewSpec : ChangeSpec := { name := "wholeView", fn := fun _ => fun
  | [d] => { results := [.lit (.bool true)], args := [d] }
  | _ => none }
def wholeViewRow : OpenClaim := { program := "ytidbfmbocikkgaagreat", sum := "a7fcf83233d77095a8496ee6d2bf52e8bfc8bca9cefca8446fcce6362d0254a4", func := "palinode/palinodetop.WholeView", spec := "wholeView", inPlace := ["internal/abi.NoEscape", "maps.clone", "slices.overlaps[int]"], unfollowed := true, recurses := true, apart := false }
def WholeViewSaid : Prop := wholeViewRow.holds Tryz.pinned (OpenSpec.ofChange wholeViewSpec)

/-- ITS FALSE NEIGHBOUR: 'it returns false'. Refute it at one input. -/
def wholeViewWrong : ChangeSpec := { name := "wholeView", fn := fun _ => fun
  | [d] => { results := [.lit (.bool false)], args := [d] }
  | _ => none }
def WholeViewWrongFalsely : Prop := wholeViewRow.holds Tryz.pinned (OpenSpec.ofChange wholeViewWrong)

/-- 'palinodetop.WholeMarks': WHATEVER THE INPUT: true; the input reads as it did. -/
def wholeMarksSpec : ChangeSpec := { name := "wholeMarks", fn := fun _ => fun
  | [d1, d2, d3] => { results := [.lit (.bool true)], args := [d1, d2, d3] }
  | _ => none }
def wholeMarksRow : OpenClaim := { program := "ytidbfmbocikkgaagreat", sum := "a7fcf83233d77095a8496ee6d2bf52e8bfc8bca9cefca8446fcce6362d0254a4", func := "palinode/palinodetop.WholeMarks", spec := "wholeMarks", inPlace := ["internal/abi.NoEscape", "maps.clone", "slices.overlaps[int]"], unfollowed := true, recurses := true, apart := false }
def WholeMarksSaid : Prop := wholeMarksRow.holds Tryz.pinned (OpenSpec.ofChange wholeMarksSpec)

/-- ITS FALSE NEIGHBOUR: 'it returns false'. Refute it at one input. -/
def wholeMarksWrong : ChangeSpec := { name := "wholeMarks", fn := fun _ => fun
  | [d1, d2, d3] => { results := [.lit (.bool false)], args := [d1, d2, d3] }
  | _ => none }
def WholeMarksWrongFalsely : Prop := wholeMarksRow.holds Tryz.pinned (OpenSpec.ofChange wholeMarksWrong)

/-- 'palinodetop.WholeUndone': WHATEVER THE INPUT: true; the input reads as it did. -/
def wholeUndoneSpec : ChangeSpec := { name := "wholeUndone", fn := fun _ => fun
  | [d1, d2] => { results := [.lit (.bool true)], args := [d1, d2] }
  | _ => none }
def wholeUndoneRow : OpenClaim := { program := "ytidbfmbocikkgaagreat", sum := "a7fcf83233d77095a8496ee6d2bf52e8bfc8bca9cefca8446fcce6362d0254a4", func := "palinode/palinodetop.WholeUndone", spec := "wholeUndone", inPlace := ["internal/abi.NoEscape", "maps.clone", "slices.overlaps[int]"], unfollowed := true, recurses := true, apart := false }
def WholeUndoneSaid : Prop := wholeUndoneRow.holds Tryz.pinned (OpenSpec.ofChange wholeUndoneSpec)

/-- ITS FALSE NEIGHBOUR: 'it returns false'. Refute it at one input. -/
def wholeUndoneWrong : ChangeSpec := { name := "wholeUndone", fn := fun _ => fun
  | [d1, d2] => { results := [.lit (.bool false)], args := [d1, d2] }
  | _ => none }
def WholeUndoneWrongFalsely : Prop := wholeUndoneRow.holds Tryz.pinned (OpenSpec.ofChange wholeUndoneWrong)

/-- 'palinodetop.WholeTwice': WHATEVER THE INPUT: true; the input reads as it did. -/
def wholeTwiceSpec : ChangeSpec := { name := "wholeTwice", fn := fun _ => fun
  | [d1, d2, d3] => { results := [.lit (.bool true)], args := [d1, d2, d3] }
  | _ => none }
def wholeTwiceRow : OpenClaim := { program := "ytidbfmbocikkgaagreat", sum := "a7fcf83233d77095a8496ee6d2bf52e8bfc8bca9cefca8446fcce6362d0254a4", func := "palinode/palinodetop.WholeTwice", spec := "wholeTwice", inPlace := ["internal/abi.NoEscape", "maps.clone", "slices.overlaps[int]"], unfollowed := true, recurses := true, apart := false }
def WholeTwiceSaid : Prop := wholeTwiceRow.holds Tryz.pinned (OpenSpec.ofChange wholeTwiceSpec)

/-- ITS FALSE NEIGHBOUR: 'it returns false'. Refute it at one input. -/
def wholeTwiceWrong : ChangeSpec := { name := "wholeTwice", fn := fun _ => fun
  | [d1, d2, d3] => { results := [.lit (.bool false)], args := [d1, d2, d3] }
  | _ => none }
def WholeTwiceWrongFalsely : Prop := wholeTwiceRow.holds Tryz.pinned (OpenSpec.ofChange wholeTwiceWrong)

/-- 'palinodetop.WholeForgets': WHATEVER THE INPUT: true; the input reads as it did. -/
def wholeForgetsSpec : ChangeSpec := { name := "wholeForgets", fn := fun _ => fun
  | [d1, d2, d3] => { results := [.lit (.bool true)], args := [d1, d2, d3] }
  | _ => none }
def wholeForgetsRow : OpenClaim := { program := "ytidbfmbocikkgaagreat", sum := "a7fcf83233d77095a8496ee6d2bf52e8bfc8bca9cefca8446fcce6362d0254a4", func := "palinode/palinodetop.WholeForgets", spec := "wholeForgets", inPlace := ["internal/abi.NoEscape", "maps.clone", "slices.overlaps[int]"], unfollowed := true, recurses := true, apart := false }
def WholeForgetsSaid : Prop := wholeForgetsRow.holds Tryz.pinned (OpenSpec.ofChange wholeForgetsSpec)

/-- ITS FALSE NEIGHBOUR: 'it returns false'. Refute it at one input. -/
def wholeForgetsWrong : ChangeSpec := { name := "wholeForgets", fn := fun _ => fun
  | [d1, d2, d3] => { results := [.lit (.bool false)], args := [d1, d2, d3] }
  | _ => none }
def WholeForgetsWrongFalsely : Prop := wholeForgetsRow.holds Tryz.pinned (OpenSpec.ofChange wholeForgetsWrong)

/-- 'palinodetop.WholeRest': WHATEVER THE INPUT: true; the input reads as it did. -/
def wholeRestSpec : ChangeSpec := { name := "wholeRest", fn := fun _ => fun
  | [d1, d2] => { results := [.lit (.bool true)], args := [d1, d2] }
  | _ => none }
def wholeRestRow : OpenClaim := { program := "ytidbfmbocikkgaagreat", sum := "a7fcf83233d77095a8496ee6d2bf52e8bfc8bca9cefca8446fcce6362d0254a4", func := "palinode/palinodetop.WholeRest", spec := "wholeRest", inPlace := ["internal/abi.NoEscape", "maps.clone", "slices.overlaps[int]"], unfollowed := true, recurses := true, apart := false }
def WholeRestSaid : Prop := wholeRestRow.holds Tryz.pinned (OpenSpec.ofChange wholeRestSpec)

/-- ITS FALSE NEIGHBOUR: 'it returns false'. Refute it at one input. -/
def wholeRestWrong : ChangeSpec := { name := "wholeRest", fn := fun _ => fun
  | [d1, d2] => { results := [.lit (.bool false)], args := [d1, d2] }
  | _ => none }
def WholeRestWrongFalsely : Prop := wholeRestRow.holds Tryz.pinned (OpenSpec.ofChange wholeRestWrong)

/- THE SECOND FORM. 'bulk': how many values and letters a reading holds, each counted each time it is reached (what is shared counts as often as it is met; a slice's spare places count too). A statement '..UptoSaid' is the law's where the arguments, and the package variables that the reading takes, are together of bulk at most 1048576: NARROWER than '..Said'. Prove '..Said' where nothing that the law and all that it calls make is longer than what came in: it says more and counts as full. Else prove '..UptoSaid'. A law counts once. -/
mutual
def uptoBulk {H : Type} : DataW H → Nat
  | .lit (.string bytes) => bytes.length + 1
  | .lit _ => 1
  | .nil => 1
  | .ptr d => uptoBulk d + 1
  | .slice elems spare => uptoBulkAll elems + uptoBulkAll spare + 1
  | .agg parts => uptoBulkAll parts + 1
  | .iface _ d => uptoBulk d + 1
  | .map entries => uptoBulkEntries entries + 1
  | .held _ => 1
def uptoBulkAll {H : Type} : List (DataW H) → Nat
  | [] => 0
  | d :: r => uptoBulk d + uptoBulkAll r
def uptoBulkEntries {H : Type} : List (Lit × DataW H) → Nat
  | [] => 0
  | x :: r => uptoBulkEntry x + uptoBulkEntries r
def uptoBulkEntry {H : Type} : Lit × DataW H → Nat
  | (.string bytes, d) => bytes.length + uptoBulk d + 1
  | (_, d) => uptoBulk d + 1
 end
def uptoSmall : (H : Type) → List (DataW H) → Bool := fun _ ds => decide (uptoBulkAll ds ≤ 1048576)
def OpenSpec.upto (s : _root_.Go.ChangeSpec) : _root_.Go.OpenSpec := { _root_.Go.OpenSpec.ofChange s with cond := some uptoSmall }

/-- 'palinodetop.WholeMerge', WHERE WHAT IT READS IS OF BULK AT MOST 1048576: true; the input reads as it did. -/
def wholeMergeUptoRow : OpenClaim := { program := "ytidbfmbocikkgaagreat", sum := "a7fcf83233d77095a8496ee6d2bf52e8bfc8bca9cefca8446fcce6362d0254a4", func := "palinode/palinodetop.WholeMerge", spec := "wholeMerge", inPlace := ["internal/abi.NoEscape", "maps.clone", "slices.overlaps[int]"], unfollowed := true, recurses := true, apart := false, narrowed := true }
def WholeMergeUptoSaid : Prop := wholeMergeUptoRow.holds Tryz.pinned (OpenSpec.upto wholeMergeSpec)

/-- 'palinodetop.WholeSame', WHERE WHAT IT READS IS OF BULK AT MOST 1048576: true; the input reads as it did. -/
def wholeSameUptoRow : OpenClaim := { program := "ytidbfmbocikkgaagreat", sum := "a7fcf83233d77095a8496ee6d2bf52e8bfc8bca9cefca8446fcce6362d0254a4", func := "palinode/palinodetop.WholeSame", spec := "wholeSame", inPlace := ["internal/abi.NoEscape", "maps.clone", "slices.overlaps[int]"], unfollowed := true, recurses := true, apart := false, narrowed := true }
def WholeSameUptoSaid : Prop := wholeSameUptoRow.holds Tryz.pinned (OpenSpec.upto wholeSameSpec)

/-- 'palinodetop.WholeInside', WHERE WHAT IT READS IS OF BULK AT MOST 1048576: true; the input reads as it did. -/
def wholeInsideUptoRow : OpenClaim := { program := "ytidbfmbocikkgaagreat", sum := "a7fcf83233d77095a8496ee6d2bf52e8bfc8bca9cefca8446fcce6362d0254a4", func := "palinode/palinodetop.WholeInside", spec := "wholeInside", inPlace := ["internal/abi.NoEscape", "maps.clone", "slices.overlaps[int]"], unfollowed := true, recurses := true, apart := false, narrowed := true }
def WholeInsideUptoSaid : Prop := wholeInsideUptoRow.holds Tryz.pinned (OpenSpec.upto wholeInsideSpec)

/-- 'palinodetop.WholeOrder', WHERE WHAT IT READS IS OF BULK AT MOST 1048576: true; the input reads as it did. -/
def wholeOrderUptoRow : OpenClaim := { program := "ytidbfmbocikkgaagreat", sum := "a7fcf83233d77095a8496ee6d2bf52e8bfc8bca9cefca8446fcce6362d0254a4", func := "palinode/palinodetop.WholeOrder", spec := "wholeOrder", inPlace := ["internal/abi.NoEscape", "maps.clone", "slices.overlaps[int]"], unfollowed := true, recurses := true, apart := false, narrowed := true }
def WholeOrderUptoSaid : Prop := wholeOrderUptoRow.holds Tryz.pinned (OpenSpec.upto wholeOrderSpec)

/-- 'palinodetop.WholeStyles', WHERE WHAT IT READS IS OF BULK AT MOST 1048576: true; the input reads as it did. -/
def wholeStylesUptoRow : OpenClaim := { program := "ytidbfmbocikkgaagreat", sum := "a7fcf83233d77095a8496ee6d2bf52e8bfc8bca9cefca8446fcce6362d0254a4", func := "palinode/palinodetop.WholeStyles", spec := "wholeStyles", inPlace := ["internal/abi.NoEscape", "maps.clone", "slices.overlaps[int]"], unfollowed := true, recurses := true, apart := false, narrowed := true }
def WholeStylesUptoSaid : Prop := wholeStylesUptoRow.holds Tryz.pinned (OpenSpec.upto wholeStylesSpec)

/-- 'palinodetop.WholeView', WHERE WHAT IT READS IS OF BULK AT MOST 1048576: true; the input reads as it did. -/
def wholeViewUptoRow : OpenClaim := { program := "ytidbfmbocikkgaagreat", sum := "a7fcf83233d77095a8496ee6d2bf52e8bfc8bca9cefca8446fcce6362d0254a4", func := "palinode/palinodetop.WholeView", spec := "wholeView", inPlace := ["internal/abi.NoEscape", "maps.clone", "slices.overlaps[int]"], unfollowed := true, recurses := true, apart := false, narrowed := true }
def WholeViewUptoSaid : Prop := wholeViewUptoRow.holds Tryz.pinned (OpenSpec.upto wholeViewSpec)

/-- 'palinodetop.WholeMarks', WHERE WHAT IT READS IS OF BULK AT MOST 1048576: true; the input reads as it did. -/
def wholeMarksUptoRow : OpenClaim := { program := "ytidbfmbocikkgaagreat", sum := "a7fcf83233d77095a8496ee6d2bf52e8bfc8bca9cefca8446fcce6362d0254a4", func := "palinode/palinodetop.WholeMarks", spec := "wholeMarks", inPlace := ["internal/abi.NoEscape", "maps.clone", "slices.overlaps[int]"], unfollowed := true, recurses := true, apart := false, narrowed := true }
def WholeMarksUptoSaid : Prop := wholeMarksUptoRow.holds Tryz.pinned (OpenSpec.upto wholeMarksSpec)

/-- 'palinodetop.WholeUndone', WHERE WHAT IT READS IS OF BULK AT MOST 1048576: true; the input reads as it did. -/
def wholeUndoneUptoRow : OpenClaim := { program := "ytidbfmbocikkgaagreat", sum := "a7fcf83233d77095a8496ee6d2bf52e8bfc8bca9cefca8446fcce6362d0254a4", func := "palinode/palinodetop.WholeUndone", spec := "wholeUndone", inPlace := ["internal/abi.NoEscape", "maps.clone", "slices.overlaps[int]"], unfollowed := true, recurses := true, apart := false, narrowed := true }
def WholeUndoneUptoSaid : Prop := wholeUndoneUptoRow.holds Tryz.pinned (OpenSpec.upto wholeUndoneSpec)

/-- 'palinodetop.WholeTwice', WHERE WHAT IT READS IS OF BULK AT MOST 1048576: true; the input reads as it did. -/
def wholeTwiceUptoRow : OpenClaim := { program := "ytidbfmbocikkgaagreat", sum := "a7fcf83233d77095a8496ee6d2bf52e8bfc8bca9cefca8446fcce6362d0254a4", func := "palinode/palinodetop.WholeTwice", spec := "wholeTwice", inPlace := ["internal/abi.NoEscape", "maps.clone", "slices.overlaps[int]"], unfollowed := true, recurses := true, apart := false, narrowed := true }
def WholeTwiceUptoSaid : Prop := wholeTwiceUptoRow.holds Tryz.pinned (OpenSpec.upto wholeTwiceSpec)

/-- 'palinodetop.WholeForgets', WHERE WHAT IT READS IS OF BULK AT MOST 1048576: true; the input reads as it did. -/
def wholeForgetsUptoRow : OpenClaim := { program := "ytidbfmbocikkgaagreat", sum := "a7fcf83233d77095a8496ee6d2bf52e8bfc8bca9cefca8446fcce6362d0254a4", func := "palinode/palinodetop.WholeForgets", spec := "wholeForgets", inPlace := ["internal/abi.NoEscape", "maps.clone", "slices.overlaps[int]"], unfollowed := true, recurses := true, apart := false, narrowed := true }
def WholeForgetsUptoSaid : Prop := wholeForgetsUptoRow.holds Tryz.pinned (OpenSpec.upto wholeForgetsSpec)

/-- 'palinodetop.WholeRest', WHERE WHAT IT READS IS OF BULK AT MOST 1048576: true; the input reads as it did. -/
def wholeRestUptoRow : OpenClaim := { program := "ytidbfmbocikkgaagreat", sum := "a7fcf83233d77095a8496ee6d2bf52e8bfc8bca9cefca8446fcce6362d0254a4", func := "palinode/palinodetop.WholeRest", spec := "wholeRest", inPlace := ["internal/abi.NoEscape", "maps.clone", "slices.overlaps[int]"], unfollowed := true, recurses := true, apart := false, narrowed := true }
def WholeRestUptoSaid : Prop := wholeRestUptoRow.holds Tryz.pinned (OpenSpec.upto wholeRestSpec)

end Rows
end Go.Proofs.YtidbfmbocikkgaaGreat

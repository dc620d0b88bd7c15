/-
  No cell of these rows narrows 'for every input' (looked for: loops, veiled, ifaces, maps, wideKeys, modest, calm, conditions, laid).
  DERIVED. THE GIVEN ROWS OF THIS SEAT. 6 by the template 'for every input the law returns true; each argument reads behind the call as it read before'; 0 by the template 'total and deterministic' (their statements: YtamfofpiclclhaaTotals.lean).
  GIVEN WITH THE SEED: the statements are not yours to turn. If you find one false, say at which input.
  Laid BY PROGRAM, IN A SANDBOX (cutbox-rows.mjs): the forced cells as the released guide's own fill.sh prints them over the translation d5e32640fbcc77f4… (all of the seat's roots in one cut). By AI agents, Wed Nov 11 2026. No macro, syntax, notation, axiom, sorry.
-/
import Derived.Test.YtamfofpiclclhaaChecked
import GoSem.Claim
import GoSem.ClaimJoined
import GoSem.ClaimMapViews
import Derived.JoinedTies
import Derived.KernelRfl
namespace Go.Proofs.Ytamfofpiclclhaa
/- THE CELL 'sum', in the pinned program and in every row, IS THE sha256 OF THE DUMP (.gsa) THAT YtamfofpiclclhaaProg.lean LOADS. Nothing in Lean hashes anything: it is a label: what it is worth is what the hold of that sum in a sandbox is worth. -/
noncomputable def Try.pinned : Pinned := { name := "ytamfofpiclclhaa", sum := "d5e32640fbcc77f41ecb6f63147c3cc153dc761f18e31625c17e42af74ccabb1", checked := Try.checked }
namespace Rows
def none {H : Type} : Left H := { results := [], args := [] }

/-- 'palinodelaw16.BreaksWrap': WHATEVER THE INPUT: true; the input reads as it did. -/
def breaksWrapSpec : ChangeSpec := { name := "breaksWrap", fn := fun _ => fun
  | [d1, d2] => { results := [.lit (.bool true)], args := [d1, d2] }
  | _ => none }
def breaksWrapRow : OpenClaim := { program := "ytamfofpiclclhaa", sum := "d5e32640fbcc77f41ecb6f63147c3cc153dc761f18e31625c17e42af74ccabb1", func := "palinode/palinodelaw16.BreaksWrap", spec := "breaksWrap", inPlace := ["slices.overlaps[int]"], apart := false }
def BreaksWrapSaid : Prop := breaksWrapRow.holds Try.pinned (OpenSpec.ofChange breaksWrapSpec)

/-- ITS FALSE NEIGHBOUR: 'it returns false'. Refute it at one input. -/
def breaksWrapWrong : ChangeSpec := { name := "breaksWrap", fn := fun _ => fun
  | [d1, d2] => { results := [.lit (.bool false)], args := [d1, d2] }
  | _ => none }
def BreaksWrapWrongFalsely : Prop := breaksWrapRow.holds Try.pinned (OpenSpec.ofChange breaksWrapWrong)

/-- 'palinodelaw16.BreaksFit': WHATEVER THE INPUT: true; the input reads as it did. -/
def breaksFitSpec : ChangeSpec := { name := "breaksFit", fn := fun _ => fun
  | [d1, d2] => { results := [.lit (.bool true)], args := [d1, d2] }
  | _ => none }
def breaksFitRow : OpenClaim := { program := "ytamfofpiclclhaa", sum := "d5e32640fbcc77f41ecb6f63147c3cc153dc761f18e31625c17e42af74ccabb1", func := "palinode/palinodelaw16.BreaksFit", spec := "breaksFit", inPlace := ["slices.overlaps[int]"], apart := false }
def BreaksFitSaid : Prop := breaksFitRow.holds Try.pinned (OpenSpec.ofChange breaksFitSpec)

/-- ITS FALSE NEIGHBOUR: 'it returns false'. Refute it at one input. -/
def breaksFitWrong : ChangeSpec := { name := "breaksFit", fn := fun _ => fun
  | [d1, d2] => { results := [.lit (.bool false)], args := [d1, d2] }
  | _ => none }
def BreaksFitWrongFalsely : Prop := breaksFitRow.holds Try.pinned (OpenSpec.ofChange breaksFitWrong)

/-- 'palinodelaw16.BreaksRows': WHATEVER THE INPUT: true; the input reads as it did. -/
def breaksRowsSpec : ChangeSpec := { name := "breaksRows", fn := fun _ => fun
  | [d] => { results := [.lit (.bool true)], args := [d] }
  | _ => none }
def breaksRowsRow : OpenClaim := { program := "ytamfofpiclclhaa", sum := "d5e32640fbcc77f41ecb6f63147c3cc153dc761f18e31625c17e42af74ccabb1", func := "palinode/palinodelaw16.BreaksRows", spec := "breaksRows", inPlace := ["slices.overlaps[int]"], apart := false }
def BreaksRowsSaid : Prop := breaksRowsRow.holds Try.pinned (OpenSpec.ofChange breaksRowsSpec)

/-- ITS FALSE NEIGHBOUR: 'it returns false'. Refute it at one input. -/
def breaksRowsWrong : ChangeSpec := { name := "breaksRows", fn := fun _ => fun
  | [d] => { results := [.lit (.bool false)], args := [d] }
  | _ => none }
def BreaksRowsWrongFalsely : Prop := breaksRowsRow.holds Try.pinned (OpenSpec.ofChange breaksRowsWrong)

/-- 'palinodelaw16.BreaksMany': WHATEVER THE INPUT: true; the input reads as it did. -/
def breaksManySpec : ChangeSpec := { name := "breaksMany", fn := fun _ => fun
  | [d] => { results := [.lit (.bool true)], args := [d] }
  | _ => none }
def breaksManyRow : OpenClaim := { program := "ytamfofpiclclhaa", sum := "d5e32640fbcc77f41ecb6f63147c3cc153dc761f18e31625c17e42af74ccabb1", func := "palinode/palinodelaw16.BreaksMany", spec := "breaksMany", inPlace := ["slices.overlaps[int]"], apart := false }
def BreaksManySaid : Prop := breaksManyRow.holds Try.pinned (OpenSpec.ofChange breaksManySpec)

/-- ITS FALSE NEIGHBOUR: 'it returns false'. Refute it at one input. -/
def breaksManyWrong : ChangeSpec := { name := "breaksMany", fn := fun _ => fun
  | [d] => { results := [.lit (.bool false)], args := [d] }
  | _ => none }
def BreaksManyWrongFalsely : Prop := breaksManyRow.holds Try.pinned (OpenSpec.ofChange breaksManyWrong)

/-- 'palinodelaw16.BreaksTell': WHATEVER THE INPUT: true; the input reads as it did. -/
def breaksTellSpec : ChangeSpec := { name := "breaksTell", fn := fun _ => fun
  | [d1, d2, d3, d4] => { results := [.lit (.bool true)], args := [d1, d2, d3, d4] }
  | _ => none }
def breaksTellRow : OpenClaim := { program := "ytamfofpiclclhaa", sum := "d5e32640fbcc77f41ecb6f63147c3cc153dc761f18e31625c17e42af74ccabb1", func := "palinode/palinodelaw16.BreaksTell", spec := "breaksTell", inPlace := ["slices.overlaps[int]"], apart := false }
def BreaksTellSaid : Prop := breaksTellRow.holds Try.pinned (OpenSpec.ofChange breaksTellSpec)

/-- ITS FALSE NEIGHBOUR: 'it returns false'. Refute it at one input. -/
def breaksTellWrong : ChangeSpec := { name := "breaksTell", fn := fun _ => fun
  | [d1, d2, d3, d4] => { results := [.lit (.bool false)], args := [d1, d2, d3, d4] }
  | _ => none }
def BreaksTellWrongFalsely : Prop := breaksTellRow.holds Try.pinned (OpenSpec.ofChange breaksTellWrong)

/-- 'palinodelaw16.BreaksGo': WHATEVER THE INPUT: true; the input reads as it did. -/
def breaksGoSpec : ChangeSpec := { name := "breaksGo", fn := fun _ => fun
  | [d1, d2, d3] => { results := [.lit (.bool true)], args := [d1, d2, d3] }
  | _ => none }
def breaksGoRow : OpenClaim := { program := "ytamfofpiclclhaa", sum := "d5e32640fbcc77f41ecb6f63147c3cc153dc761f18e31625c17e42af74ccabb1", func := "palinode/palinodelaw16.BreaksGo", spec := "breaksGo", inPlace := ["slices.overlaps[int]"], apart := false }
def BreaksGoSaid : Prop := breaksGoRow.holds Try.pinned (OpenSpec.ofChange breaksGoSpec)

/-- ITS FALSE NEIGHBOUR: 'it returns false'. Refute it at one input. -/
def breaksGoWrong : ChangeSpec := { name := "breaksGo", fn := fun _ => fun
  | [d1, d2, d3] => { results := [.lit (.bool false)], args := [d1, d2, d3] }
  | _ => none }
def BreaksGoWrongFalsely : Prop := breaksGoRow.holds Try.pinned (OpenSpec.ofChange breaksGoWrong)

/- THE SECOND FORM. 'bulk': how many values and letters a reading holds, each counted each time it is reached (what is shared counts as often as it is met; a slice's spare places count too). A statement '..UptoSaid' is the law's where the arguments, and the package variables that the reading takes, are together of bulk at most 1048576: NARROWER than '..Said'. Prove '..Said' where nothing that the law and all that it calls make is longer than what came in: it says more and counts as full. Else prove '..UptoSaid'. A law counts once. -/
mutual
def uptoBulk {H : Type} : DataW H → Nat
  | .lit (.string bytes) => bytes.length + 1
  | .lit _ => 1
  | .nil => 1
  | .ptr d => uptoBulk d + 1
  | .slice elems spare => uptoBulkAll elems + uptoBulkAll spare + 1
  | .agg parts => uptoBulkAll parts + 1
  | .iface _ d => uptoBulk d + 1
  | .map entries => uptoBulkEntries entries + 1
  | .held _ => 1
def uptoBulkAll {H : Type} : List (DataW H) → Nat
  | [] => 0
  | d :: r => uptoBulk d + uptoBulkAll r
def uptoBulkEntries {H : Type} : List (Lit × DataW H) → Nat
  | [] => 0
  | x :: r => uptoBulkEntry x + uptoBulkEntries r
def uptoBulkEntry {H : Type} : Lit × DataW H → Nat
  | (.string bytes, d) => bytes.length + uptoBulk d + 1
  | (_, d) => uptoBulk d + 1
 end
def uptoSmall : (H : Type) → List (DataW H) → Bool := fun _ ds => decide (uptoBulkAll ds ≤ 1048576)
def OpenSpec.upto (s : _root_.Go.ChangeSpec) : _root_.Go.OpenSpec := { _root_.Go.OpenSpec.ofChange s with cond := some uptoSmall }

/-- 'palinodelaw16.BreaksWrap', WHERE WHAT IT READS IS OF BULK AT MOST 1048576: true; the input reads as it did. -/
def breaksWrapUptoRow : OpenClaim := { program := "ytamfofpiclclhaa", sum := "d5e32640fbcc77f41ecb6f63147c3cc153dc761f18e31625c17e42af74ccabb1", func := "palinode/palinodelaw16.BreaksWrap", spec := "breaksWrap", inPlace := ["slices.overlaps[int]"], apart := false, narrowed := true }
def BreaksWrapUptoSaid : Prop := breaksWrapUptoRow.holds Try.pinned (OpenSpec.upto breaksWrapSpec)

/-- 'palinodelaw16.BreaksFit', WHERE WHAT IT READS IS OF BULK AT MOST 1048576: true; the input reads as it did. -/
def breaksFitUptoRow : OpenClaim := { program := "ytamfofpiclclhaa", sum := "d5e32640fbcc77f41ecb6f63147c3cc153dc761f18e31625c17e42af74ccabb1", func := "palinode/palinodelaw16.BreaksFit", spec := "breaksFit", inPlace := ["slices.overlaps[int]"], apart := false, narrowed := true }
def BreaksFitUptoSaid : Prop := breaksFitUptoRow.holds Try.pinned (OpenSpec.upto breaksFitSpec)

/-- 'palinodelaw16.BreaksRows', WHERE WHAT IT READS IS OF BULK AT MOST 1048576: true; the input reads as it did. -/
def breaksRowsUptoRow : OpenClaim := { program := "ytamfofpiclclhaa", sum := "d5e32640fbcc77f41ecb6f63147c3cc153dc761f18e31625c17e42af74ccabb1", func := "palinode/palinodelaw16.BreaksRows", spec := "breaksRows", inPlace := ["slices.overlaps[int]"], apart := false, narrowed := true }
def BreaksRowsUptoSaid : Prop := breaksRowsUptoRow.holds Try.pinned (OpenSpec.upto breaksRowsSpec)

/-- 'palinodelaw16.BreaksMany', WHERE WHAT IT READS IS OF BULK AT MOST 1048576: true; the input reads as it did. -/
def breaksManyUptoRow : OpenClaim := { program := "ytamfofpiclclhaa", sum := "d5e32640fbcc77f41ecb6f63147c3cc153dc761f18e31625c17e42af74ccabb1", func := "palinode/palinodelaw16.BreaksMany", spec := "breaksMany", inPlace := ["slices.overlaps[int]"], apart := false, narrowed := true }
def BreaksManyUptoSaid : Prop := breaksManyUptoRow.holds Try.pinned (OpenSpec.upto breaksManySpec)

/-- 'palinodelaw16.BreaksTell', WHERE WHAT IT READS IS OF BULK AT MOST 1048576: true; the input reads as it did. -/
def breaksTellUptoRow : OpenClaim := { program := "ytamfofpiclclhaa", sum := "d5e32640fbcc77f41ecb6f63147c3cc153dc761f18e31625c17e42af74ccabb1", func := "palinode/palinodelaw16.BreaksTell", spec := "breaksTell", inPlace := ["slices.overlaps[int]"], apart := false, narrowed := true }
def BreaksTellUptoSaid : Prop := breaksTellUptoRow.holds Try.pinned (OpenSpec.upto breaksTellSpec)

/-- 'palinodelaw16.BreaksGo', WHERE WHAT IT READS IS OF BULK AT MOST 1048576: true; the input reads as it did. -/
def breaksGoUptoRow : OpenClaim := { program := "ytamfofpiclclhaa", sum := "d5e32640fbcc77f41ecb6f63147c3cc153dc761f18e31625c17e42af74ccabb1", func := "palinode/palinodelaw16.BreaksGo", spec := "breaksGo", inPlace := ["slices.overlaps[int]"], apart := false, narrowed := true }
def BreaksGoUptoSaid : Prop := breaksGoUptoRow.holds Try.pinned (OpenSpec.upto breaksGoSpec)

end Rows
end Go.Proofs.Ytamfofpiclclhaa

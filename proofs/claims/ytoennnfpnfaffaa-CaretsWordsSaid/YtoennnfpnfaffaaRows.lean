/-
  No cell of these rows narrows 'for every input' (looked for: loops, veiled, ifaces, maps, wideKeys, modest, calm, conditions, laid).
  DERIVED. THE GIVEN ROWS OF THIS SEAT. 6 by the template 'for every input the law returns true; each argument reads behind the call as it read before'; 0 by the template 'total and deterministic' (their statements: YtoennnfpnfaffaaTotals.lean).
  GIVEN WITH THE SEED: the statements are not yours to turn. If you find one false, say at which input.
  Laid BY PROGRAM, IN A SANDBOX (cutbox-rows.mjs): the forced cells as the released guide's own fill.sh prints them over the translation 3ff1e2e2158e646a… (all of the seat's roots in one cut). By AI agents, Wed Nov 11 2026. No macro, syntax, notation, axiom, sorry.
-/
import Derived.Test.YtoennnfpnfaffaaChecked
import GoSem.Claim
import GoSem.ClaimJoined
import GoSem.ClaimMapViews
import Derived.JoinedTies
import Derived.KernelRfl
namespace Go.Proofs.Ytoennnfpnfaffaa
/- THE CELL 'sum', in the pinned program and in every row, IS THE sha256 OF THE DUMP (.gsa) THAT YtoennnfpnfaffaaProg.lean LOADS. Nothing in Lean hashes anything: it is a label: what it is worth is what the hold of that sum in a sandbox is worth. -/
noncomputable def Try.pinned : Pinned := { name := "ytoennnfpnfaffaa", sum := "3ff1e2e2158e646a99d7751c45d11f4bb38b2bb2ba123235c5bc5ac70366082c", checked := Try.checked }
namespace Rows
def none {H : Type} : Left H := { results := [], args := [] }

/-- 'palinodelaw25.CaretsTell': WHATEVER THE INPUT: true; the input reads as it did. -/
def caretsTellSpec : ChangeSpec := { name := "caretsTell", fn := fun _ => fun
  | [d1, d2, d3, d4, d5] => { results := [.lit (.bool true)], args := [d1, d2, d3, d4, d5] }
  | _ => none }
def caretsTellRow : OpenClaim := { program := "ytoennnfpnfaffaa", sum := "3ff1e2e2158e646a99d7751c45d11f4bb38b2bb2ba123235c5bc5ac70366082c", func := "palinode/palinodelaw25.CaretsTell", spec := "caretsTell", inPlace := ["internal/bytealg.IndexByteString"], unfollowed := true, recurses := true, apart := false }
def CaretsTellSaid : Prop := caretsTellRow.holds Try.pinned (OpenSpec.ofChange caretsTellSpec)

/-- ITS FALSE NEIGHBOUR: 'it returns false'. Refute it at one input. -/
def caretsTellWrong : ChangeSpec := { name := "caretsTell", fn := fun _ => fun
  | [d1, d2, d3, d4, d5] => { results := [.lit (.bool false)], args := [d1, d2, d3, d4, d5] }
  | _ => none }
def CaretsTellWrongFalsely : Prop := caretsTellRow.holds Try.pinned (OpenSpec.ofChange caretsTellWrong)

/-- 'palinodelaw25.CaretsErase': WHATEVER THE INPUT: true; the input reads as it did. -/
def caretsEraseSpec : ChangeSpec := { name := "caretsErase", fn := fun _ => fun
  | [d1, d2] => { results := [.lit (.bool true)], args := [d1, d2] }
  | _ => none }
def caretsEraseRow : OpenClaim := { program := "ytoennnfpnfaffaa", sum := "3ff1e2e2158e646a99d7751c45d11f4bb38b2bb2ba123235c5bc5ac70366082c", func := "palinode/palinodelaw25.CaretsErase", spec := "caretsErase", inPlace := ["internal/bytealg.IndexByteString"], unfollowed := true, recurses := true, apart := false }
def CaretsEraseSaid : Prop := caretsEraseRow.holds Try.pinned (OpenSpec.ofChange caretsEraseSpec)

/-- ITS FALSE NEIGHBOUR: 'it returns false'. Refute it at one input. -/
def caretsEraseWrong : ChangeSpec := { name := "caretsErase", fn := fun _ => fun
  | [d1, d2] => { results := [.lit (.bool false)], args := [d1, d2] }
  | _ => none }
def CaretsEraseWrongFalsely : Prop := caretsEraseRow.holds Try.pinned (OpenSpec.ofChange caretsEraseWrong)

/-- 'palinodelaw25.CaretsType': WHATEVER THE INPUT: true; the input reads as it did. -/
def caretsTypeSpec : ChangeSpec := { name := "caretsType", fn := fun _ => fun
  | [d1, d2, d3] => { results := [.lit (.bool true)], args := [d1, d2, d3] }
  | _ => none }
def caretsTypeRow : OpenClaim := { program := "ytoennnfpnfaffaa", sum := "3ff1e2e2158e646a99d7751c45d11f4bb38b2bb2ba123235c5bc5ac70366082c", func := "palinode/palinodelaw25.CaretsType", spec := "caretsType", inPlace := ["internal/bytealg.IndexByteString"], unfollowed := true, recurses := true, apart := false }
def CaretsTypeSaid : Prop := caretsTypeRow.holds Try.pinned (OpenSpec.ofChange caretsTypeSpec)

/-- ITS FALSE NEIGHBOUR: 'it returns false'. Refute it at one input. -/
def caretsTypeWrong : ChangeSpec := { name := "caretsType", fn := fun _ => fun
  | [d1, d2, d3] => { results := [.lit (.bool false)], args := [d1, d2, d3] }
  | _ => none }
def CaretsTypeWrongFalsely : Prop := caretsTypeRow.holds Try.pinned (OpenSpec.ofChange caretsTypeWrong)

/-- 'palinodelaw25.CaretsSteps': WHATEVER THE INPUT: true; the input reads as it did. -/
def caretsStepsSpec : ChangeSpec := { name := "caretsSteps", fn := fun _ => fun
  | [d1, d2, d3] => { results := [.lit (.bool true)], args := [d1, d2, d3] }
  | _ => none }
def caretsStepsRow : OpenClaim := { program := "ytoennnfpnfaffaa", sum := "3ff1e2e2158e646a99d7751c45d11f4bb38b2bb2ba123235c5bc5ac70366082c", func := "palinode/palinodelaw25.CaretsSteps", spec := "caretsSteps", inPlace := ["internal/bytealg.IndexByteString"], unfollowed := true, recurses := true, apart := false }
def CaretsStepsSaid : Prop := caretsStepsRow.holds Try.pinned (OpenSpec.ofChange caretsStepsSpec)

/-- ITS FALSE NEIGHBOUR: 'it returns false'. Refute it at one input. -/
def caretsStepsWrong : ChangeSpec := { name := "caretsSteps", fn := fun _ => fun
  | [d1, d2, d3] => { results := [.lit (.bool false)], args := [d1, d2, d3] }
  | _ => none }
def CaretsStepsWrongFalsely : Prop := caretsStepsRow.holds Try.pinned (OpenSpec.ofChange caretsStepsWrong)

/-- 'palinodelaw25.CaretsLines': WHATEVER THE INPUT: true; the input reads as it did. -/
def caretsLinesSpec : ChangeSpec := { name := "caretsLines", fn := fun _ => fun
  | [d1, d2] => { results := [.lit (.bool true)], args := [d1, d2] }
  | _ => none }
def caretsLinesRow : OpenClaim := { program := "ytoennnfpnfaffaa", sum := "3ff1e2e2158e646a99d7751c45d11f4bb38b2bb2ba123235c5bc5ac70366082c", func := "palinode/palinodelaw25.CaretsLines", spec := "caretsLines", inPlace := ["internal/bytealg.IndexByteString"], unfollowed := true, recurses := true, apart := false }
def CaretsLinesSaid : Prop := caretsLinesRow.holds Try.pinned (OpenSpec.ofChange caretsLinesSpec)

/-- ITS FALSE NEIGHBOUR: 'it returns false'. Refute it at one input. -/
def caretsLinesWrong : ChangeSpec := { name := "caretsLines", fn := fun _ => fun
  | [d1, d2] => { results := [.lit (.bool false)], args := [d1, d2] }
  | _ => none }
def CaretsLinesWrongFalsely : Prop := caretsLinesRow.holds Try.pinned (OpenSpec.ofChange caretsLinesWrong)

/-- 'palinodelaw25.CaretsWords': WHATEVER THE INPUT: true; the input reads as it did. -/
def caretsWordsSpec : ChangeSpec := { name := "caretsWords", fn := fun _ => fun
  | [d] => { results := [.lit (.bool true)], args := [d] }
  | _ => none }
def caretsWordsRow : OpenClaim := { program := "ytoennnfpnfaffaa", sum := "3ff1e2e2158e646a99d7751c45d11f4bb38b2bb2ba123235c5bc5ac70366082c", func := "palinode/palinodelaw25.CaretsWords", spec := "caretsWords", inPlace := ["internal/bytealg.IndexByteString"], unfollowed := true, recurses := true, apart := false }
def CaretsWordsSaid : Prop := caretsWordsRow.holds Try.pinned (OpenSpec.ofChange caretsWordsSpec)

/-- ITS FALSE NEIGHBOUR: 'it returns false'. Refute it at one input. -/
def caretsWordsWrong : ChangeSpec := { name := "caretsWords", fn := fun _ => fun
  | [d] => { results := [.lit (.bool false)], args := [d] }
  | _ => none }
def CaretsWordsWrongFalsely : Prop := caretsWordsRow.holds Try.pinned (OpenSpec.ofChange caretsWordsWrong)

/- THE SECOND FORM. 'bulk': how many values and letters a reading holds, each counted each time it is reached (what is shared counts as often as it is met; a slice's spare places count too). A statement '..UptoSaid' is the law's where the arguments, and the package variables that the reading takes, are together of bulk at most 1048576: NARROWER than '..Said'. Prove '..Said' where nothing that the law and all that it calls make is longer than what came in: it says more and counts as full. Else prove '..UptoSaid'. A law counts once. -/
mutual
def uptoBulk {H : Type} : DataW H → Nat
  | .lit (.string bytes) => bytes.length + 1
  | .lit _ => 1
  | .nil => 1
  | .ptr d => uptoBulk d + 1
  | .slice elems spare => uptoBulkAll elems + uptoBulkAll spare + 1
  | .agg parts => uptoBulkAll parts + 1
  | .iface _ d => uptoBulk d + 1
  | .map entries => uptoBulkEntries entries + 1
  | .held _ => 1
def uptoBulkAll {H : Type} : List (DataW H) → Nat
  | [] => 0
  | d :: r => uptoBulk d + uptoBulkAll r
def uptoBulkEntries {H : Type} : List (Lit × DataW H) → Nat
  | [] => 0
  | x :: r => uptoBulkEntry x + uptoBulkEntries r
def uptoBulkEntry {H : Type} : Lit × DataW H → Nat
  | (.string bytes, d) => bytes.length + uptoBulk d + 1
  | (_, d) => uptoBulk d + 1
 end
def uptoSmall : (H : Type) → List (DataW H) → Bool := fun _ ds => decide (uptoBulkAll ds ≤ 1048576)
def OpenSpec.upto (s : _root_.Go.ChangeSpec) : _root_.Go.OpenSpec := { _root_.Go.OpenSpec.ofChange s with cond := some uptoSmall }

/-- 'palinodelaw25.CaretsTell', WHERE WHAT IT READS IS OF BULK AT MOST 1048576: true; the input reads as it did. -/
def caretsTellUptoRow : OpenClaim := { program := "ytoennnfpnfaffaa", sum := "3ff1e2e2158e646a99d7751c45d11f4bb38b2bb2ba123235c5bc5ac70366082c", func := "palinode/palinodelaw25.CaretsTell", spec := "caretsTell", inPlace := ["internal/bytealg.IndexByteString"], unfollowed := true, recurses := true, apart := false, narrowed := true }
def CaretsTellUptoSaid : Prop := caretsTellUptoRow.holds Try.pinned (OpenSpec.upto caretsTellSpec)

/-- 'palinodelaw25.CaretsErase', WHERE WHAT IT READS IS OF BULK AT MOST 1048576: true; the input reads as it did. -/
def caretsEraseUptoRow : OpenClaim := { program := "ytoennnfpnfaffaa", sum := "3ff1e2e2158e646a99d7751c45d11f4bb38b2bb2ba123235c5bc5ac70366082c", func := "palinode/palinodelaw25.CaretsErase", spec := "caretsErase", inPlace := ["internal/bytealg.IndexByteString"], unfollowed := true, recurses := true, apart := false, narrowed := true }
def CaretsEraseUptoSaid : Prop := caretsEraseUptoRow.holds Try.pinned (OpenSpec.upto caretsEraseSpec)

/-- 'palinodelaw25.CaretsType', WHERE WHAT IT READS IS OF BULK AT MOST 1048576: true; the input reads as it did. -/
def caretsTypeUptoRow : OpenClaim := { program := "ytoennnfpnfaffaa", sum := "3ff1e2e2158e646a99d7751c45d11f4bb38b2bb2ba123235c5bc5ac70366082c", func := "palinode/palinodelaw25.CaretsType", spec := "caretsType", inPlace := ["internal/bytealg.IndexByteString"], unfollowed := true, recurses := true, apart := false, narrowed := true }
def CaretsTypeUptoSaid : Prop := caretsTypeUptoRow.holds Try.pinned (OpenSpec.upto caretsTypeSpec)

/-- 'palinodelaw25.CaretsSteps', WHERE WHAT IT READS IS OF BULK AT MOST 1048576: true; the input reads as it did. -/
def caretsStepsUptoRow : OpenClaim := { program := "ytoennnfpnfaffaa", sum := "3ff1e2e2158e646a99d7751c45d11f4bb38b2bb2ba123235c5bc5ac70366082c", func := "palinode/palinodelaw25.CaretsSteps", spec := "caretsSteps", inPlace := ["internal/bytealg.IndexByteString"], unfollowed := true, recurses := true, apart := false, narrowed := true }
def CaretsStepsUptoSaid : Prop := caretsStepsUptoRow.holds Try.pinned (OpenSpec.upto caretsStepsSpec)

/-- 'palinodelaw25.CaretsLines', WHERE WHAT IT READS IS OF BULK AT MOST 1048576: true; the input reads as it did. -/
def caretsLinesUptoRow : OpenClaim := { program := "ytoennnfpnfaffaa", sum := "3ff1e2e2158e646a99d7751c45d11f4bb38b2bb2ba123235c5bc5ac70366082c", func := "palinode/palinodelaw25.CaretsLines", spec := "caretsLines", inPlace := ["internal/bytealg.IndexByteString"], unfollowed := true, recurses := true, apart := false, narrowed := true }
def CaretsLinesUptoSaid : Prop := caretsLinesUptoRow.holds Try.pinned (OpenSpec.upto caretsLinesSpec)

/-- 'palinodelaw25.CaretsWords', WHERE WHAT IT READS IS OF BULK AT MOST 1048576: true; the input reads as it did. -/
def caretsWordsUptoRow : OpenClaim := { program := "ytoennnfpnfaffaa", sum := "3ff1e2e2158e646a99d7751c45d11f4bb38b2bb2ba123235c5bc5ac70366082c", func := "palinode/palinodelaw25.CaretsWords", spec := "caretsWords", inPlace := ["internal/bytealg.IndexByteString"], unfollowed := true, recurses := true, apart := false, narrowed := true }
def CaretsWordsUptoSaid : Prop := caretsWordsUptoRow.holds Try.pinned (OpenSpec.upto caretsWordsSpec)

end Rows
end Go.Proofs.Ytoennnfpnfaffaa

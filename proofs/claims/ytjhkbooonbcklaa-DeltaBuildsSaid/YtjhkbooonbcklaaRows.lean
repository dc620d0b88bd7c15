/-
  No cell of these rows narrows 'for every input' (looked for: loops, veiled, ifaces, maps, wideKeys, modest, calm, conditions, laid).
  DERIVED. THE GIVEN ROWS OF THIS SEAT. 6 by the template 'for every input the law returns true; each argument reads behind the call as it read before'; 0 by the template 'total and deterministic' (their statements: YtjhkbooonbcklaaTotals.lean).
  GIVEN WITH THE SEED: the statements are not yours to turn. If you find one false, say at which input.
  Laid BY PROGRAM, IN A SANDBOX (cutbox-rows.mjs): the forced cells as the released guide's own fill.sh prints them over the translation 07896d3fa369a209… (all of the seat's roots in one cut). By AI agents, Wed Nov 11 2026. No macro, syntax, notation, axiom, sorry.
-/
import Derived.Test.YtjhkbooonbcklaaChecked
import GoSem.Claim
import GoSem.ClaimJoined
import GoSem.ClaimMapViews
import Derived.JoinedTies
import Derived.KernelRfl
namespace Go.Proofs.Ytjhkbooonbcklaa
/- THE CELL 'sum', in the pinned program and in every row, IS THE sha256 OF THE DUMP (.gsa) THAT YtjhkbooonbcklaaProg.lean LOADS. Nothing in Lean hashes anything: it is a label: what it is worth is what the hold of that sum in a sandbox is worth. -/
noncomputable def Try.pinned : Pinned := { name := "ytjhkbooonbcklaa", sum := "07896d3fa369a209615883f53dd1647d2fb646a4cf2d606ce63c922fe54b8adf", checked := Try.checked }
namespace Rows
def none {H : Type} : Left H := { results := [], args := [] }

/-- 'palinodelaw11.DeltaTells': WHATEVER THE INPUT: true; the input reads as it did. -/
def deltaTellsSpec : ChangeSpec := { name := "deltaTells", fn := fun _ => fun
  | [d1, d2, d3] => { results := [.lit (.bool true)], args := [d1, d2, d3] }
  | _ => none }
def deltaTellsRow : OpenClaim := { program := "ytjhkbooonbcklaa", sum := "07896d3fa369a209615883f53dd1647d2fb646a4cf2d606ce63c922fe54b8adf", func := "palinode/palinodelaw11.DeltaTells", spec := "deltaTells", apart := false }
def DeltaTellsSaid : Prop := deltaTellsRow.holds Try.pinned (OpenSpec.ofChange deltaTellsSpec)

/-- ITS FALSE NEIGHBOUR: 'it returns false'. Refute it at one input. -/
def deltaTellsWrong : ChangeSpec := { name := "deltaTells", fn := fun _ => fun
  | [d1, d2, d3] => { results := [.lit (.bool false)], args := [d1, d2, d3] }
  | _ => none }
def DeltaTellsWrongFalsely : Prop := deltaTellsRow.holds Try.pinned (OpenSpec.ofChange deltaTellsWrong)

/-- 'palinodelaw11.DeltaBuilds': WHATEVER THE INPUT: true; the input reads as it did. -/
def deltaBuildsSpec : ChangeSpec := { name := "deltaBuilds", fn := fun _ => fun
  | [d1, d2] => { results := [.lit (.bool true)], args := [d1, d2] }
  | _ => none }
def deltaBuildsRow : OpenClaim := { program := "ytjhkbooonbcklaa", sum := "07896d3fa369a209615883f53dd1647d2fb646a4cf2d606ce63c922fe54b8adf", func := "palinode/palinodelaw11.DeltaBuilds", spec := "deltaBuilds", apart := false }
def DeltaBuildsSaid : Prop := deltaBuildsRow.holds Try.pinned (OpenSpec.ofChange deltaBuildsSpec)

/-- ITS FALSE NEIGHBOUR: 'it returns false'. Refute it at one input. -/
def deltaBuildsWrong : ChangeSpec := { name := "deltaBuilds", fn := fun _ => fun
  | [d1, d2] => { results := [.lit (.bool false)], args := [d1, d2] }
  | _ => none }
def DeltaBuildsWrongFalsely : Prop := deltaBuildsRow.holds Try.pinned (OpenSpec.ofChange deltaBuildsWrong)

/-- 'palinodelaw11.DeltaDoes': WHATEVER THE INPUT: true; the input reads as it did. -/
def deltaDoesSpec : ChangeSpec := { name := "deltaDoes", fn := fun _ => fun
  | [d1, d2] => { results := [.lit (.bool true)], args := [d1, d2] }
  | _ => none }
def deltaDoesRow : OpenClaim := { program := "ytjhkbooonbcklaa", sum := "07896d3fa369a209615883f53dd1647d2fb646a4cf2d606ce63c922fe54b8adf", func := "palinode/palinodelaw11.DeltaDoes", spec := "deltaDoes", apart := false }
def DeltaDoesSaid : Prop := deltaDoesRow.holds Try.pinned (OpenSpec.ofChange deltaDoesSpec)

/-- ITS FALSE NEIGHBOUR: 'it returns false'. Refute it at one input. -/
def deltaDoesWrong : ChangeSpec := { name := "deltaDoes", fn := fun _ => fun
  | [d1, d2] => { results := [.lit (.bool false)], args := [d1, d2] }
  | _ => none }
def DeltaDoesWrongFalsely : Prop := deltaDoesRow.holds Try.pinned (OpenSpec.ofChange deltaDoesWrong)

/-- 'palinodelaw11.DeltaLong': WHATEVER THE INPUT: true; the input reads as it did. -/
def deltaLongSpec : ChangeSpec := { name := "deltaLong", fn := fun _ => fun
  | [d1, d2] => { results := [.lit (.bool true)], args := [d1, d2] }
  | _ => none }
def deltaLongRow : OpenClaim := { program := "ytjhkbooonbcklaa", sum := "07896d3fa369a209615883f53dd1647d2fb646a4cf2d606ce63c922fe54b8adf", func := "palinode/palinodelaw11.DeltaLong", spec := "deltaLong", apart := false }
def DeltaLongSaid : Prop := deltaLongRow.holds Try.pinned (OpenSpec.ofChange deltaLongSpec)

/-- ITS FALSE NEIGHBOUR: 'it returns false'. Refute it at one input. -/
def deltaLongWrong : ChangeSpec := { name := "deltaLong", fn := fun _ => fun
  | [d1, d2] => { results := [.lit (.bool false)], args := [d1, d2] }
  | _ => none }
def DeltaLongWrongFalsely : Prop := deltaLongRow.holds Try.pinned (OpenSpec.ofChange deltaLongWrong)

/-- 'palinodelaw11.DeltaKeeps': WHATEVER THE INPUT: true; the input reads as it did. -/
def deltaKeepsSpec : ChangeSpec := { name := "deltaKeeps", fn := fun _ => fun
  | [d1, d2, d3] => { results := [.lit (.bool true)], args := [d1, d2, d3] }
  | _ => none }
def deltaKeepsRow : OpenClaim := { program := "ytjhkbooonbcklaa", sum := "07896d3fa369a209615883f53dd1647d2fb646a4cf2d606ce63c922fe54b8adf", func := "palinode/palinodelaw11.DeltaKeeps", spec := "deltaKeeps", apart := false }
def DeltaKeepsSaid : Prop := deltaKeepsRow.holds Try.pinned (OpenSpec.ofChange deltaKeepsSpec)

/-- ITS FALSE NEIGHBOUR: 'it returns false'. Refute it at one input. -/
def deltaKeepsWrong : ChangeSpec := { name := "deltaKeeps", fn := fun _ => fun
  | [d1, d2, d3] => { results := [.lit (.bool false)], args := [d1, d2, d3] }
  | _ => none }
def DeltaKeepsWrongFalsely : Prop := deltaKeepsRow.holds Try.pinned (OpenSpec.ofChange deltaKeepsWrong)

/-- 'palinodelaw11.DeltaLeast': WHATEVER THE INPUT: true; the input reads as it did. -/
def deltaLeastSpec : ChangeSpec := { name := "deltaLeast", fn := fun _ => fun
  | [d1, d2, d3] => { results := [.lit (.bool true)], args := [d1, d2, d3] }
  | _ => none }
def deltaLeastRow : OpenClaim := { program := "ytjhkbooonbcklaa", sum := "07896d3fa369a209615883f53dd1647d2fb646a4cf2d606ce63c922fe54b8adf", func := "palinode/palinodelaw11.DeltaLeast", spec := "deltaLeast", apart := false }
def DeltaLeastSaid : Prop := deltaLeastRow.holds Try.pinned (OpenSpec.ofChange deltaLeastSpec)

/-- ITS FALSE NEIGHBOUR: 'it returns false'. Refute it at one input. -/
def deltaLeastWrong : ChangeSpec := { name := "deltaLeast", fn := fun _ => fun
  | [d1, d2, d3] => { results := [.lit (.bool false)], args := [d1, d2, d3] }
  | _ => none }
def DeltaLeastWrongFalsely : Prop := deltaLeastRow.holds Try.pinned (OpenSpec.ofChange deltaLeastWrong)

/- THE SECOND FORM. 'bulk': how many values and letters a reading holds, each counted each time it is reached (what is shared counts as often as it is met; a slice's spare places count too). A statement '..UptoSaid' is the law's where the arguments, and the package variables that the reading takes, are together of bulk at most 1048576: NARROWER than '..Said'. Prove '..Said' where nothing that the law and all that it calls make is longer than what came in: it says more and counts as full. Else prove '..UptoSaid'. A law counts once. -/
mutual
def uptoBulk {H : Type} : DataW H → Nat
  | .lit (.string bytes) => bytes.length + 1
  | .lit _ => 1
  | .nil => 1
  | .ptr d => uptoBulk d + 1
  | .slice elems spare => uptoBulkAll elems + uptoBulkAll spare + 1
  | .agg parts => uptoBulkAll parts + 1
  | .iface _ d => uptoBulk d + 1
  | .map entries => uptoBulkEntries entries + 1
  | .held _ => 1
def uptoBulkAll {H : Type} : List (DataW H) → Nat
  | [] => 0
  | d :: r => uptoBulk d + uptoBulkAll r
def uptoBulkEntries {H : Type} : List (Lit × DataW H) → Nat
  | [] => 0
  | x :: r => uptoBulkEntry x + uptoBulkEntries r
def uptoBulkEntry {H : Type} : Lit × DataW H → Nat
  | (.string bytes, d) => bytes.length + uptoBulk d + 1
  | (_, d) => uptoBulk d + 1
 end
def uptoSmall : (H : Type) → List (DataW H) → Bool := fun _ ds => decide (uptoBulkAll ds ≤ 1048576)
def OpenSpec.upto (s : _root_.Go.ChangeSpec) : _root_.Go.OpenSpec := { _root_.Go.OpenSpec.ofChange s with cond := some uptoSmall }

/-- 'palinodelaw11.DeltaTells', WHERE WHAT IT READS IS OF BULK AT MOST 1048576: true; the input reads as it did. -/
def deltaTellsUptoRow : OpenClaim := { program := "ytjhkbooonbcklaa", sum := "07896d3fa369a209615883f53dd1647d2fb646a4cf2d606ce63c922fe54b8adf", func := "palinode/palinodelaw11.DeltaTells", spec := "deltaTells", apart := false, narrowed := true }
def DeltaTellsUptoSaid : Prop := deltaTellsUptoRow.holds Try.pinned (OpenSpec.upto deltaTellsSpec)

/-- 'palinodelaw11.DeltaBuilds', WHERE WHAT IT READS IS OF BULK AT MOST 1048576: true; the input reads as it did. -/
def deltaBuildsUptoRow : OpenClaim := { program := "ytjhkbooonbcklaa", sum := "07896d3fa369a209615883f53dd1647d2fb646a4cf2d606ce63c922fe54b8adf", func := "palinode/palinodelaw11.DeltaBuilds", spec := "deltaBuilds", apart := false, narrowed := true }
def DeltaBuildsUptoSaid : Prop := deltaBuildsUptoRow.holds Try.pinned (OpenSpec.upto deltaBuildsSpec)

/-- 'palinodelaw11.DeltaDoes', WHERE WHAT IT READS IS OF BULK AT MOST 1048576: true; the input reads as it did. -/
def deltaDoesUptoRow : OpenClaim := { program := "ytjhkbooonbcklaa", sum := "07896d3fa369a209615883f53dd1647d2fb646a4cf2d606ce63c922fe54b8adf", func := "palinode/palinodelaw11.DeltaDoes", spec := "deltaDoes", apart := false, narrowed := true }
def DeltaDoesUptoSaid : Prop := deltaDoesUptoRow.holds Try.pinned (OpenSpec.upto deltaDoesSpec)

/-- 'palinodelaw11.DeltaLong', WHERE WHAT IT READS IS OF BULK AT MOST 1048576: true; the input reads as it did. -/
def deltaLongUptoRow : OpenClaim := { program := "ytjhkbooonbcklaa", sum := "07896d3fa369a209615883f53dd1647d2fb646a4cf2d606ce63c922fe54b8adf", func := "palinode/palinodelaw11.DeltaLong", spec := "deltaLong", apart := false, narrowed := true }
def DeltaLongUptoSaid : Prop := deltaLongUptoRow.holds Try.pinned (OpenSpec.upto deltaLongSpec)

/-- 'palinodelaw11.DeltaKeeps', WHERE WHAT IT READS IS OF BULK AT MOST 1048576: true; the input reads as it did. -/
def deltaKeepsUptoRow : OpenClaim := { program := "ytjhkbooonbcklaa", sum := "07896d3fa369a209615883f53dd1647d2fb646a4cf2d606ce63c922fe54b8adf", func := "palinode/palinodelaw11.DeltaKeeps", spec := "deltaKeeps", apart := false, narrowed := true }
def DeltaKeepsUptoSaid : Prop := deltaKeepsUptoRow.holds Try.pinned (OpenSpec.upto deltaKeepsSpec)

/-- 'palinodelaw11.DeltaLeast', WHERE WHAT IT READS IS OF BULK AT MOST 1048576: true; the input reads as it did. -/
def deltaLeastUptoRow : OpenClaim := { program := "ytjhkbooonbcklaa", sum := "07896d3fa369a209615883f53dd1647d2fb646a4cf2d606ce63c922fe54b8adf", func := "palinode/palinodelaw11.DeltaLeast", spec := "deltaLeast", apart := false, narrowed := true }
def DeltaLeastUptoSaid : Prop := deltaLeastUptoRow.holds Try.pinned (OpenSpec.upto deltaLeastSpec)

end Rows
end Go.Proofs.Ytjhkbooonbcklaa

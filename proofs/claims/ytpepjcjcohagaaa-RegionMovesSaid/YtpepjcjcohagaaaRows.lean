/-
  No cell of these rows narrows 'for every input' (looked for: loops, veiled, ifaces, maps, wideKeys, modest, calm, conditions, laid).
  DERIVED. THE GIVEN ROWS OF THIS SEAT. 5 by the template 'for every input the law returns true; each argument reads behind the call as it read before'; 0 by the template 'total and deterministic' (their statements: YtpepjcjcohagaaaTotals.lean).
  GIVEN WITH THE SEED: the statements are not yours to turn. If you find one false, say at which input.
  Laid BY PROGRAM, IN A SANDBOX (cutbox-rows.mjs): the forced cells as the released guide's own fill.sh prints them over the translation cfc94008b1b238d0… (all of the seat's roots in one cut). By AI agents, Wed Nov 11 2026. No macro, syntax, notation, axiom, sorry.
-/
import Derived.Test.YtpepjcjcohagaaaChecked
import GoSem.Claim
import GoSem.ClaimJoined
import GoSem.ClaimMapViews
import Derived.JoinedTies
import Derived.KernelRfl
namespace Go.Proofs.Ytpepjcjcohagaaa
/- THE CELL 'sum', in the pinned program and in every row, IS THE sha256 OF THE DUMP (.gsa) THAT YtpepjcjcohagaaaProg.lean LOADS. Nothing in Lean hashes anything: it is a label: what it is worth is what the hold of that sum in a sandbox is worth. -/
noncomputable def Try.pinned : Pinned := { name := "ytpepjcjcohagaaa", sum := "cfc94008b1b238d0b8151a5e509148a4b27ed48b0b956d340fac00173b36c071", checked := Try.checked }
namespace Rows
def none {H : Type} : Left H := { results := [], args := [] }

/-- 'palinodelaw24.RegionApart': WHATEVER THE INPUT: true; the input reads as it did. -/
def regionApartSpec : ChangeSpec := { name := "regionApart", fn := fun _ => fun
  | [d1, d2] => { results := [.lit (.bool true)], args := [d1, d2] }
  | _ => none }
def regionApartRow : OpenClaim := { program := "ytpepjcjcohagaaa", sum := "cfc94008b1b238d0b8151a5e509148a4b27ed48b0b956d340fac00173b36c071", func := "palinode/palinodelaw24.RegionApart", spec := "regionApart", unfollowed := true, recurses := true, apart := false }
def RegionApartSaid : Prop := regionApartRow.holds Try.pinned (OpenSpec.ofChange regionApartSpec)

/-- ITS FALSE NEIGHBOUR: 'it returns false'. Refute it at one input. -/
def regionApartWrong : ChangeSpec := { name := "regionApart", fn := fun _ => fun
  | [d1, d2] => { results := [.lit (.bool false)], args := [d1, d2] }
  | _ => none }
def RegionApartWrongFalsely : Prop := regionApartRow.holds Try.pinned (OpenSpec.ofChange regionApartWrong)

/-- 'palinodelaw24.RegionWays': WHATEVER THE INPUT: true; the input reads as it did. -/
def regionWaysSpec : ChangeSpec := { name := "regionWays", fn := fun _ => fun
  | [d1, d2, d3] => { results := [.lit (.bool true)], args := [d1, d2, d3] }
  | _ => none }
def regionWaysRow : OpenClaim := { program := "ytpepjcjcohagaaa", sum := "cfc94008b1b238d0b8151a5e509148a4b27ed48b0b956d340fac00173b36c071", func := "palinode/palinodelaw24.RegionWays", spec := "regionWays", unfollowed := true, recurses := true, apart := false }
def RegionWaysSaid : Prop := regionWaysRow.holds Try.pinned (OpenSpec.ofChange regionWaysSpec)

/-- ITS FALSE NEIGHBOUR: 'it returns false'. Refute it at one input. -/
def regionWaysWrong : ChangeSpec := { name := "regionWays", fn := fun _ => fun
  | [d1, d2, d3] => { results := [.lit (.bool false)], args := [d1, d2, d3] }
  | _ => none }
def RegionWaysWrongFalsely : Prop := regionWaysRow.holds Try.pinned (OpenSpec.ofChange regionWaysWrong)

/-- 'palinodelaw24.RegionTyped': WHATEVER THE INPUT: true; the input reads as it did. -/
def regionTypedSpec : ChangeSpec := { name := "regionTyped", fn := fun _ => fun
  | [d1, d2, d3, d4, d5] => { results := [.lit (.bool true)], args := [d1, d2, d3, d4, d5] }
  | _ => none }
def regionTypedRow : OpenClaim := { program := "ytpepjcjcohagaaa", sum := "cfc94008b1b238d0b8151a5e509148a4b27ed48b0b956d340fac00173b36c071", func := "palinode/palinodelaw24.RegionTyped", spec := "regionTyped", unfollowed := true, recurses := true, apart := false }
def RegionTypedSaid : Prop := regionTypedRow.holds Try.pinned (OpenSpec.ofChange regionTypedSpec)

/-- ITS FALSE NEIGHBOUR: 'it returns false'. Refute it at one input. -/
def regionTypedWrong : ChangeSpec := { name := "regionTyped", fn := fun _ => fun
  | [d1, d2, d3, d4, d5] => { results := [.lit (.bool false)], args := [d1, d2, d3, d4, d5] }
  | _ => none }
def RegionTypedWrongFalsely : Prop := regionTypedRow.holds Try.pinned (OpenSpec.ofChange regionTypedWrong)

/-- 'palinodelaw24.RegionTells': WHATEVER THE INPUT: true; the input reads as it did. -/
def regionTellsSpec : ChangeSpec := { name := "regionTells", fn := fun _ => fun
  | [d1, d2, d3, d4] => { results := [.lit (.bool true)], args := [d1, d2, d3, d4] }
  | _ => none }
def regionTellsRow : OpenClaim := { program := "ytpepjcjcohagaaa", sum := "cfc94008b1b238d0b8151a5e509148a4b27ed48b0b956d340fac00173b36c071", func := "palinode/palinodelaw24.RegionTells", spec := "regionTells", unfollowed := true, recurses := true, apart := false }
def RegionTellsSaid : Prop := regionTellsRow.holds Try.pinned (OpenSpec.ofChange regionTellsSpec)

/-- ITS FALSE NEIGHBOUR: 'it returns false'. Refute it at one input. -/
def regionTellsWrong : ChangeSpec := { name := "regionTells", fn := fun _ => fun
  | [d1, d2, d3, d4] => { results := [.lit (.bool false)], args := [d1, d2, d3, d4] }
  | _ => none }
def RegionTellsWrongFalsely : Prop := regionTellsRow.holds Try.pinned (OpenSpec.ofChange regionTellsWrong)

/-- 'palinodelaw24.RegionMoves': WHATEVER THE INPUT: true; the input reads as it did. -/
def regionMovesSpec : ChangeSpec := { name := "regionMoves", fn := fun _ => fun
  | [d1, d2, d3] => { results := [.lit (.bool true)], args := [d1, d2, d3] }
  | _ => none }
def regionMovesRow : OpenClaim := { program := "ytpepjcjcohagaaa", sum := "cfc94008b1b238d0b8151a5e509148a4b27ed48b0b956d340fac00173b36c071", func := "palinode/palinodelaw24.RegionMoves", spec := "regionMoves", unfollowed := true, recurses := true, apart := false }
def RegionMovesSaid : Prop := regionMovesRow.holds Try.pinned (OpenSpec.ofChange regionMovesSpec)

/-- ITS FALSE NEIGHBOUR: 'it returns false'. Refute it at one input. -/
def regionMovesWrong : ChangeSpec := { name := "regionMoves", fn := fun _ => fun
  | [d1, d2, d3] => { results := [.lit (.bool false)], args := [d1, d2, d3] }
  | _ => none }
def RegionMovesWrongFalsely : Prop := regionMovesRow.holds Try.pinned (OpenSpec.ofChange regionMovesWrong)

/- THE SECOND FORM. 'bulk': how many values and letters a reading holds, each counted each time it is reached (what is shared counts as often as it is met; a slice's spare places count too). A statement '..UptoSaid' is the law's where the arguments, and the package variables that the reading takes, are together of bulk at most 1048576: NARROWER than '..Said'. Prove '..Said' where nothing that the law and all that it calls make is longer than what came in: it says more and counts as full. Else prove '..UptoSaid'. A law counts once. -/
mutual
def uptoBulk {H : Type} : DataW H → Nat
  | .lit (.string bytes) => bytes.length + 1
  | .lit _ => 1
  | .nil => 1
  | .ptr d => uptoBulk d + 1
  | .slice elems spare => uptoBulkAll elems + uptoBulkAll spare + 1
  | .agg parts => uptoBulkAll parts + 1
  | .iface _ d => uptoBulk d + 1
  | .map entries => uptoBulkEntries entries + 1
  | .held _ => 1
def uptoBulkAll {H : Type} : List (DataW H) → Nat
  | [] => 0
  | d :: r => uptoBulk d + uptoBulkAll r
def uptoBulkEntries {H : Type} : List (Lit × DataW H) → Nat
  | [] => 0
  | x :: r => uptoBulkEntry x + uptoBulkEntries r
def uptoBulkEntry {H : Type} : Lit × DataW H → Nat
  | (.string bytes, d) => bytes.length + uptoBulk d + 1
  | (_, d) => uptoBulk d + 1
 end
def uptoSmall : (H : Type) → List (DataW H) → Bool := fun _ ds => decide (uptoBulkAll ds ≤ 1048576)
def OpenSpec.upto (s : _root_.Go.ChangeSpec) : _root_.Go.OpenSpec := { _root_.Go.OpenSpec.ofChange s with cond := some uptoSmall }

/-- 'palinodelaw24.RegionApart', WHERE WHAT IT READS IS OF BULK AT MOST 1048576: true; the input reads as it did. -/
def regionApartUptoRow : OpenClaim := { program := "ytpepjcjcohagaaa", sum := "cfc94008b1b238d0b8151a5e509148a4b27ed48b0b956d340fac00173b36c071", func := "palinode/palinodelaw24.RegionApart", spec := "regionApart", unfollowed := true, recurses := true, apart := false, narrowed := true }
def RegionApartUptoSaid : Prop := regionApartUptoRow.holds Try.pinned (OpenSpec.upto regionApartSpec)

/-- 'palinodelaw24.RegionWays', WHERE WHAT IT READS IS OF BULK AT MOST 1048576: true; the input reads as it did. -/
def regionWaysUptoRow : OpenClaim := { program := "ytpepjcjcohagaaa", sum := "cfc94008b1b238d0b8151a5e509148a4b27ed48b0b956d340fac00173b36c071", func := "palinode/palinodelaw24.RegionWays", spec := "regionWays", unfollowed := true, recurses := true, apart := false, narrowed := true }
def RegionWaysUptoSaid : Prop := regionWaysUptoRow.holds Try.pinned (OpenSpec.upto regionWaysSpec)

/-- 'palinodelaw24.RegionTyped', WHERE WHAT IT READS IS OF BULK AT MOST 1048576: true; the input reads as it did. -/
def regionTypedUptoRow : OpenClaim := { program := "ytpepjcjcohagaaa", sum := "cfc94008b1b238d0b8151a5e509148a4b27ed48b0b956d340fac00173b36c071", func := "palinode/palinodelaw24.RegionTyped", spec := "regionTyped", unfollowed := true, recurses := true, apart := false, narrowed := true }
def RegionTypedUptoSaid : Prop := regionTypedUptoRow.holds Try.pinned (OpenSpec.upto regionTypedSpec)

/-- 'palinodelaw24.RegionTells', WHERE WHAT IT READS IS OF BULK AT MOST 1048576: true; the input reads as it did. -/
def regionTellsUptoRow : OpenClaim := { program := "ytpepjcjcohagaaa", sum := "cfc94008b1b238d0b8151a5e509148a4b27ed48b0b956d340fac00173b36c071", func := "palinode/palinodelaw24.RegionTells", spec := "regionTells", unfollowed := true, recurses := true, apart := false, narrowed := true }
def RegionTellsUptoSaid : Prop := regionTellsUptoRow.holds Try.pinned (OpenSpec.upto regionTellsSpec)

/-- 'palinodelaw24.RegionMoves', WHERE WHAT IT READS IS OF BULK AT MOST 1048576: true; the input reads as it did. -/
def regionMovesUptoRow : OpenClaim := { program := "ytpepjcjcohagaaa", sum := "cfc94008b1b238d0b8151a5e509148a4b27ed48b0b956d340fac00173b36c071", func := "palinode/palinodelaw24.RegionMoves", spec := "regionMoves", unfollowed := true, recurses := true, apart := false, narrowed := true }
def RegionMovesUptoSaid : Prop := regionMovesUptoRow.holds Try.pinned (OpenSpec.upto regionMovesSpec)

end Rows
end Go.Proofs.Ytpepjcjcohagaaa

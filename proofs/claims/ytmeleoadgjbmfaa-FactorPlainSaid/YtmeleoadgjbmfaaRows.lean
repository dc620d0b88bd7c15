/-
  No cell of these rows narrows 'for every input' (looked for: loops, veiled, ifaces, maps, wideKeys, modest, calm, conditions, laid).
  DERIVED. THE GIVEN ROWS OF THIS SEAT. 5 by the template 'for every input the law returns true; each argument reads behind the call as it read before'; 0 by the template 'total and deterministic' (their statements: YtmeleoadgjbmfaaTotals.lean).
  GIVEN WITH THE SEED: the statements are not yours to turn. If you find one false, say at which input.
  Laid BY PROGRAM, IN A SANDBOX (cutbox-rows.mjs): the forced cells as the released guide's own fill.sh prints them over the translation bd6cc05e391d2fe6… (all of the seat's roots in one cut). By AI agents, Wed Nov 11 2026. No macro, syntax, notation, axiom, sorry.
-/
import Derived.Test.YtmeleoadgjbmfaaChecked
import GoSem.Claim
import GoSem.ClaimJoined
import GoSem.ClaimMapViews
import Derived.JoinedTies
import Derived.KernelRfl
namespace Go.Proofs.Ytmeleoadgjbmfaa
/- THE CELL 'sum', in the pinned program and in every row, IS THE sha256 OF THE DUMP (.gsa) THAT YtmeleoadgjbmfaaProg.lean LOADS. Nothing in Lean hashes anything: it is a label: what it is worth is what the hold of that sum in a sandbox is worth. -/
noncomputable def Try.pinned : Pinned := { name := "ytmeleoadgjbmfaa", sum := "bd6cc05e391d2fe6af88376328b58e97181e6fafd193aa3800a1bd671e03f709", checked := Try.checked }
namespace Rows
def none {H : Type} : Left H := { results := [], args := [] }

/-- 'palinodelaw12.FactorTells': WHATEVER THE INPUT: true; the input reads as it did. -/
def factorTellsSpec : ChangeSpec := { name := "factorTells", fn := fun _ => fun
  | [d] => { results := [.lit (.bool true)], args := [d] }
  | _ => none }
def factorTellsRow : OpenClaim := { program := "ytmeleoadgjbmfaa", sum := "bd6cc05e391d2fe6af88376328b58e97181e6fafd193aa3800a1bd671e03f709", func := "palinode/palinodelaw12.FactorTells", spec := "factorTells", apart := false }
def FactorTellsSaid : Prop := factorTellsRow.holds Try.pinned (OpenSpec.ofChange factorTellsSpec)

/-- ITS FALSE NEIGHBOUR: 'it returns false'. Refute it at one input. -/
def factorTellsWrong : ChangeSpec := { name := "factorTells", fn := fun _ => fun
  | [d] => { results := [.lit (.bool false)], args := [d] }
  | _ => none }
def FactorTellsWrongFalsely : Prop := factorTellsRow.holds Try.pinned (OpenSpec.ofChange factorTellsWrong)

/-- 'palinodelaw12.FactorCounts': WHATEVER THE INPUT: true; the input reads as it did. -/
def factorCountsSpec : ChangeSpec := { name := "factorCounts", fn := fun _ => fun
  | [d1, d2] => { results := [.lit (.bool true)], args := [d1, d2] }
  | _ => none }
def factorCountsRow : OpenClaim := { program := "ytmeleoadgjbmfaa", sum := "bd6cc05e391d2fe6af88376328b58e97181e6fafd193aa3800a1bd671e03f709", func := "palinode/palinodelaw12.FactorCounts", spec := "factorCounts", apart := false }
def FactorCountsSaid : Prop := factorCountsRow.holds Try.pinned (OpenSpec.ofChange factorCountsSpec)

/-- ITS FALSE NEIGHBOUR: 'it returns false'. Refute it at one input. -/
def factorCountsWrong : ChangeSpec := { name := "factorCounts", fn := fun _ => fun
  | [d1, d2] => { results := [.lit (.bool false)], args := [d1, d2] }
  | _ => none }
def FactorCountsWrongFalsely : Prop := factorCountsRow.holds Try.pinned (OpenSpec.ofChange factorCountsWrong)

/-- 'palinodelaw12.FactorJoins': WHATEVER THE INPUT: true; the input reads as it did. -/
def factorJoinsSpec : ChangeSpec := { name := "factorJoins", fn := fun _ => fun
  | [d1, d2] => { results := [.lit (.bool true)], args := [d1, d2] }
  | _ => none }
def factorJoinsRow : OpenClaim := { program := "ytmeleoadgjbmfaa", sum := "bd6cc05e391d2fe6af88376328b58e97181e6fafd193aa3800a1bd671e03f709", func := "palinode/palinodelaw12.FactorJoins", spec := "factorJoins", apart := false }
def FactorJoinsSaid : Prop := factorJoinsRow.holds Try.pinned (OpenSpec.ofChange factorJoinsSpec)

/-- ITS FALSE NEIGHBOUR: 'it returns false'. Refute it at one input. -/
def factorJoinsWrong : ChangeSpec := { name := "factorJoins", fn := fun _ => fun
  | [d1, d2] => { results := [.lit (.bool false)], args := [d1, d2] }
  | _ => none }
def FactorJoinsWrongFalsely : Prop := factorJoinsRow.holds Try.pinned (OpenSpec.ofChange factorJoinsWrong)

/-- 'palinodelaw12.FactorPlain': WHATEVER THE INPUT: true; the input reads as it did. -/
def factorPlainSpec : ChangeSpec := { name := "factorPlain", fn := fun _ => fun
  | [d1, d2, d3, d4] => { results := [.lit (.bool true)], args := [d1, d2, d3, d4] }
  | _ => none }
def factorPlainRow : OpenClaim := { program := "ytmeleoadgjbmfaa", sum := "bd6cc05e391d2fe6af88376328b58e97181e6fafd193aa3800a1bd671e03f709", func := "palinode/palinodelaw12.FactorPlain", spec := "factorPlain", apart := false }
def FactorPlainSaid : Prop := factorPlainRow.holds Try.pinned (OpenSpec.ofChange factorPlainSpec)

/-- ITS FALSE NEIGHBOUR: 'it returns false'. Refute it at one input. -/
def factorPlainWrong : ChangeSpec := { name := "factorPlain", fn := fun _ => fun
  | [d1, d2, d3, d4] => { results := [.lit (.bool false)], args := [d1, d2, d3, d4] }
  | _ => none }
def FactorPlainWrongFalsely : Prop := factorPlainRow.holds Try.pinned (OpenSpec.ofChange factorPlainWrong)

/-- 'palinodelaw12.FactorBack': WHATEVER THE INPUT: true; the input reads as it did. -/
def factorBackSpec : ChangeSpec := { name := "factorBack", fn := fun _ => fun
  | [d1, d2] => { results := [.lit (.bool true)], args := [d1, d2] }
  | _ => none }
def factorBackRow : OpenClaim := { program := "ytmeleoadgjbmfaa", sum := "bd6cc05e391d2fe6af88376328b58e97181e6fafd193aa3800a1bd671e03f709", func := "palinode/palinodelaw12.FactorBack", spec := "factorBack", unfollowed := true, recurses := true, apart := false }
def FactorBackSaid : Prop := factorBackRow.holds Try.pinned (OpenSpec.ofChange factorBackSpec)

/-- ITS FALSE NEIGHBOUR: 'it returns false'. Refute it at one input. -/
def factorBackWrong : ChangeSpec := { name := "factorBack", fn := fun _ => fun
  | [d1, d2] => { results := [.lit (.bool false)], args := [d1, d2] }
  | _ => none }
def FactorBackWrongFalsely : Prop := factorBackRow.holds Try.pinned (OpenSpec.ofChange factorBackWrong)

/- THE SECOND FORM. 'bulk': how many values and letters a reading holds, each counted each time it is reached (what is shared counts as often as it is met; a slice's spare places count too). A statement '..UptoSaid' is the law's where the arguments, and the package variables that the reading takes, are together of bulk at most 1048576: NARROWER than '..Said'. Prove '..Said' where nothing that the law and all that it calls make is longer than what came in: it says more and counts as full. Else prove '..UptoSaid'. A law counts once. -/
mutual
def uptoBulk {H : Type} : DataW H → Nat
  | .lit (.string bytes) => bytes.length + 1
  | .lit _ => 1
  | .nil => 1
  | .ptr d => uptoBulk d + 1
  | .slice elems spare => uptoBulkAll elems + uptoBulkAll spare + 1
  | .agg parts => uptoBulkAll parts + 1
  | .iface _ d => uptoBulk d + 1
  | .map entries => uptoBulkEntries entries + 1
  | .held _ => 1
def uptoBulkAll {H : Type} : List (DataW H) → Nat
  | [] => 0
  | d :: r => uptoBulk d + uptoBulkAll r
def uptoBulkEntries {H : Type} : List (Lit × DataW H) → Nat
  | [] => 0
  | x :: r => uptoBulkEntry x + uptoBulkEntries r
def uptoBulkEntry {H : Type} : Lit × DataW H → Nat
  | (.string bytes, d) => bytes.length + uptoBulk d + 1
  | (_, d) => uptoBulk d + 1
 end
def uptoSmall : (H : Type) → List (DataW H) → Bool := fun _ ds => decide (uptoBulkAll ds ≤ 1048576)
def OpenSpec.upto (s : _root_.Go.ChangeSpec) : _root_.Go.OpenSpec := { _root_.Go.OpenSpec.ofChange s with cond := some uptoSmall }

/-- 'palinodelaw12.FactorTells', WHERE WHAT IT READS IS OF BULK AT MOST 1048576: true; the input reads as it did. -/
def factorTellsUptoRow : OpenClaim := { program := "ytmeleoadgjbmfaa", sum := "bd6cc05e391d2fe6af88376328b58e97181e6fafd193aa3800a1bd671e03f709", func := "palinode/palinodelaw12.FactorTells", spec := "factorTells", apart := false, narrowed := true }
def FactorTellsUptoSaid : Prop := factorTellsUptoRow.holds Try.pinned (OpenSpec.upto factorTellsSpec)

/-- 'palinodelaw12.FactorCounts', WHERE WHAT IT READS IS OF BULK AT MOST 1048576: true; the input reads as it did. -/
def factorCountsUptoRow : OpenClaim := { program := "ytmeleoadgjbmfaa", sum := "bd6cc05e391d2fe6af88376328b58e97181e6fafd193aa3800a1bd671e03f709", func := "palinode/palinodelaw12.FactorCounts", spec := "factorCounts", apart := false, narrowed := true }
def FactorCountsUptoSaid : Prop := factorCountsUptoRow.holds Try.pinned (OpenSpec.upto factorCountsSpec)

/-- 'palinodelaw12.FactorJoins', WHERE WHAT IT READS IS OF BULK AT MOST 1048576: true; the input reads as it did. -/
def factorJoinsUptoRow : OpenClaim := { program := "ytmeleoadgjbmfaa", sum := "bd6cc05e391d2fe6af88376328b58e97181e6fafd193aa3800a1bd671e03f709", func := "palinode/palinodelaw12.FactorJoins", spec := "factorJoins", apart := false, narrowed := true }
def FactorJoinsUptoSaid : Prop := factorJoinsUptoRow.holds Try.pinned (OpenSpec.upto factorJoinsSpec)

/-- 'palinodelaw12.FactorPlain', WHERE WHAT IT READS IS OF BULK AT MOST 1048576: true; the input reads as it did. -/
def factorPlainUptoRow : OpenClaim := { program := "ytmeleoadgjbmfaa", sum := "bd6cc05e391d2fe6af88376328b58e97181e6fafd193aa3800a1bd671e03f709", func := "palinode/palinodelaw12.FactorPlain", spec := "factorPlain", apart := false, narrowed := true }
def FactorPlainUptoSaid : Prop := factorPlainUptoRow.holds Try.pinned (OpenSpec.upto factorPlainSpec)

/-- 'palinodelaw12.FactorBack', WHERE WHAT IT READS IS OF BULK AT MOST 1048576: true; the input reads as it did. -/
def factorBackUptoRow : OpenClaim := { program := "ytmeleoadgjbmfaa", sum := "bd6cc05e391d2fe6af88376328b58e97181e6fafd193aa3800a1bd671e03f709", func := "palinode/palinodelaw12.FactorBack", spec := "factorBack", unfollowed := true, recurses := true, apart := false, narrowed := true }
def FactorBackUptoSaid : Prop := factorBackUptoRow.holds Try.pinned (OpenSpec.upto factorBackSpec)

end Rows
end Go.Proofs.Ytmeleoadgjbmfaa

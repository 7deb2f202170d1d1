/-
  No cell of these rows narrows 'for every input' (looked for: loops, veiled, ifaces, maps, wideKeys, modest, calm, conditions, laid).
  DERIVED. THE GIVEN ROWS OF THIS SEAT. 4 by the template 'for every input the law returns true; each argument reads behind the call as it read before'; 0 by the template 'total and deterministic' (their statements: YtbpjlpokmnmmmaaTotals.lean).
  GIVEN WITH THE SEED: the statements are not yours to turn. If you find one false, say at which input.
  Laid BY PROGRAM, IN A SANDBOX (cutbox-rows.mjs): the forced cells as the released guide's own fill.sh prints them over the translation d147dcee1a7bfa6c… (all of the seat's roots in one cut). By AI agents, Wed Nov 11 2026. No macro, syntax, notation, axiom, sorry.
-/
import Derived.Test.YtbpjlpokmnmmmaaChecked
import GoSem.Claim
import GoSem.ClaimJoined
import GoSem.ClaimMapViews
import Derived.JoinedTies
import Derived.KernelRfl
namespace Go.Proofs.Ytbpjlpokmnmmmaa
/- THE CELL 'sum', in the pinned program and in every row, IS THE sha256 OF THE DUMP (.gsa) THAT YtbpjlpokmnmmmaaProg.lean LOADS. Nothing in Lean hashes anything: it is a label: what it is worth is what the hold of that sum in a sandbox is worth. -/
noncomputable def Try.pinned : Pinned := { name := "ytbpjlpokmnmmmaa", sum := "d147dcee1a7bfa6c80fc8a51222cc0ac19bdc7cc964b137cb38a3b68c3d97375", checked := Try.checked }
namespace Rows
def none {H : Type} : Left H := { results := [], args := [] }

/-- 'topiaristlaw14.CloseTells': WHATEVER THE INPUT: true; the input reads as it did. -/
def closeTellsSpec : ChangeSpec := { name := "closeTells", fn := fun _ => fun
  | [d1, d2, d3] => { results := [.lit (.bool true)], args := [d1, d2, d3] }
  | _ => none }
def closeTellsRow : OpenClaim := { program := "ytbpjlpokmnmmmaa", sum := "d147dcee1a7bfa6c80fc8a51222cc0ac19bdc7cc964b137cb38a3b68c3d97375", func := "topiarist/topiaristlaw14.CloseTells", spec := "closeTells", unfollowed := true, recurses := true, apart := false }
def CloseTellsSaid : Prop := closeTellsRow.holds Try.pinned (OpenSpec.ofChange closeTellsSpec)

/-- ITS FALSE NEIGHBOUR: 'it returns false'. Refute it at one input. -/
def closeTellsWrong : ChangeSpec := { name := "closeTells", fn := fun _ => fun
  | [d1, d2, d3] => { results := [.lit (.bool false)], args := [d1, d2, d3] }
  | _ => none }
def CloseTellsWrongFalsely : Prop := closeTellsRow.holds Try.pinned (OpenSpec.ofChange closeTellsWrong)

/-- 'topiaristlaw14.CloseHolds': WHATEVER THE INPUT: true; the input reads as it did. -/
def closeHoldsSpec : ChangeSpec := { name := "closeHolds", fn := fun _ => fun
  | [d1, d2, d3] => { results := [.lit (.bool true)], args := [d1, d2, d3] }
  | _ => none }
def closeHoldsRow : OpenClaim := { program := "ytbpjlpokmnmmmaa", sum := "d147dcee1a7bfa6c80fc8a51222cc0ac19bdc7cc964b137cb38a3b68c3d97375", func := "topiarist/topiaristlaw14.CloseHolds", spec := "closeHolds", unfollowed := true, recurses := true, apart := false }
def CloseHoldsSaid : Prop := closeHoldsRow.holds Try.pinned (OpenSpec.ofChange closeHoldsSpec)

/-- ITS FALSE NEIGHBOUR: 'it returns false'. Refute it at one input. -/
def closeHoldsWrong : ChangeSpec := { name := "closeHolds", fn := fun _ => fun
  | [d1, d2, d3] => { results := [.lit (.bool false)], args := [d1, d2, d3] }
  | _ => none }
def CloseHoldsWrongFalsely : Prop := closeHoldsRow.holds Try.pinned (OpenSpec.ofChange closeHoldsWrong)

/-- 'topiaristlaw14.CloseUnion': WHATEVER THE INPUT: true; the input reads as it did. -/
def closeUnionSpec : ChangeSpec := { name := "closeUnion", fn := fun _ => fun
  | [d1, d2, d3] => { results := [.lit (.bool true)], args := [d1, d2, d3] }
  | _ => none }
def closeUnionRow : OpenClaim := { program := "ytbpjlpokmnmmmaa", sum := "d147dcee1a7bfa6c80fc8a51222cc0ac19bdc7cc964b137cb38a3b68c3d97375", func := "topiarist/topiaristlaw14.CloseUnion", spec := "closeUnion", unfollowed := true, recurses := true, apart := false }
def CloseUnionSaid : Prop := closeUnionRow.holds Try.pinned (OpenSpec.ofChange closeUnionSpec)

/-- ITS FALSE NEIGHBOUR: 'it returns false'. Refute it at one input. -/
def closeUnionWrong : ChangeSpec := { name := "closeUnion", fn := fun _ => fun
  | [d1, d2, d3] => { results := [.lit (.bool false)], args := [d1, d2, d3] }
  | _ => none }
def CloseUnionWrongFalsely : Prop := closeUnionRow.holds Try.pinned (OpenSpec.ofChange closeUnionWrong)

/-- 'topiaristlaw14.CloseSteps': WHATEVER THE INPUT: true; the input reads as it did. -/
def closeStepsSpec : ChangeSpec := { name := "closeSteps", fn := fun _ => fun
  | [d1, d2, d3] => { results := [.lit (.bool true)], args := [d1, d2, d3] }
  | _ => none }
def closeStepsRow : OpenClaim := { program := "ytbpjlpokmnmmmaa", sum := "d147dcee1a7bfa6c80fc8a51222cc0ac19bdc7cc964b137cb38a3b68c3d97375", func := "topiarist/topiaristlaw14.CloseSteps", spec := "closeSteps", unfollowed := true, recurses := true, apart := false }
def CloseStepsSaid : Prop := closeStepsRow.holds Try.pinned (OpenSpec.ofChange closeStepsSpec)

/-- ITS FALSE NEIGHBOUR: 'it returns false'. Refute it at one input. -/
def closeStepsWrong : ChangeSpec := { name := "closeSteps", fn := fun _ => fun
  | [d1, d2, d3] => { results := [.lit (.bool false)], args := [d1, d2, d3] }
  | _ => none }
def CloseStepsWrongFalsely : Prop := closeStepsRow.holds Try.pinned (OpenSpec.ofChange closeStepsWrong)

/- THE SECOND FORM. 'bulk': how many values and letters a reading holds, each counted each time it is reached (what is shared counts as often as it is met; a slice's spare places count too). A statement '..UptoSaid' is the law's where the arguments, and the package variables that the reading takes, are together of bulk at most 1048576: NARROWER than '..Said'. Prove '..Said' where nothing that the law and all that it calls make is longer than what came in: it says more and counts as full. Else prove '..UptoSaid'. A law counts once. -/
mutual
def uptoBulk {H : Type} : DataW H → Nat
  | .lit (.string bytes) => bytes.length + 1
  | .lit _ => 1
  | .nil => 1
  | .ptr d => uptoBulk d + 1
  | .slice elems spare => uptoBulkAll elems + uptoBulkAll spare + 1
  | .agg parts => uptoBulkAll parts + 1
  | .iface _ d => uptoBulk d + 1
  | .map entries => uptoBulkEntries entries + 1
  | .held _ => 1
def uptoBulkAll {H : Type} : List (DataW H) → Nat
  | [] => 0
  | d :: r => uptoBulk d + uptoBulkAll r
def uptoBulkEntries {H : Type} : List (Lit × DataW H) → Nat
  | [] => 0
  | x :: r => uptoBulkEntry x + uptoBulkEntries r
def uptoBulkEntry {H : Type} : Lit × DataW H → Nat
  | (.string bytes, d) => bytes.length + uptoBulk d + 1
  | (_, d) => uptoBulk d + 1
 end
def uptoSmall : (H : Type) → List (DataW H) → Bool := fun _ ds => decide (uptoBulkAll ds ≤ 1048576)
def OpenSpec.upto (s : _root_.Go.ChangeSpec) : _root_.Go.OpenSpec := { _root_.Go.OpenSpec.ofChange s with cond := some uptoSmall }

/-- 'topiaristlaw14.CloseTells', WHERE WHAT IT READS IS OF BULK AT MOST 1048576: true; the input reads as it did. -/
def closeTellsUptoRow : OpenClaim := { program := "ytbpjlpokmnmmmaa", sum := "d147dcee1a7bfa6c80fc8a51222cc0ac19bdc7cc964b137cb38a3b68c3d97375", func := "topiarist/topiaristlaw14.CloseTells", spec := "closeTells", unfollowed := true, recurses := true, apart := false, narrowed := true }
def CloseTellsUptoSaid : Prop := closeTellsUptoRow.holds Try.pinned (OpenSpec.upto closeTellsSpec)

/-- 'topiaristlaw14.CloseHolds', WHERE WHAT IT READS IS OF BULK AT MOST 1048576: true; the input reads as it did. -/
def closeHoldsUptoRow : OpenClaim := { program := "ytbpjlpokmnmmmaa", sum := "d147dcee1a7bfa6c80fc8a51222cc0ac19bdc7cc964b137cb38a3b68c3d97375", func := "topiarist/topiaristlaw14.CloseHolds", spec := "closeHolds", unfollowed := true, recurses := true, apart := false, narrowed := true }
def CloseHoldsUptoSaid : Prop := closeHoldsUptoRow.holds Try.pinned (OpenSpec.upto closeHoldsSpec)

/-- 'topiaristlaw14.CloseUnion', WHERE WHAT IT READS IS OF BULK AT MOST 1048576: true; the input reads as it did. -/
def closeUnionUptoRow : OpenClaim := { program := "ytbpjlpokmnmmmaa", sum := "d147dcee1a7bfa6c80fc8a51222cc0ac19bdc7cc964b137cb38a3b68c3d97375", func := "topiarist/topiaristlaw14.CloseUnion", spec := "closeUnion", unfollowed := true, recurses := true, apart := false, narrowed := true }
def CloseUnionUptoSaid : Prop := closeUnionUptoRow.holds Try.pinned (OpenSpec.upto closeUnionSpec)

/-- 'topiaristlaw14.CloseSteps', WHERE WHAT IT READS IS OF BULK AT MOST 1048576: true; the input reads as it did. -/
def closeStepsUptoRow : OpenClaim := { program := "ytbpjlpokmnmmmaa", sum := "d147dcee1a7bfa6c80fc8a51222cc0ac19bdc7cc964b137cb38a3b68c3d97375", func := "topiarist/topiaristlaw14.CloseSteps", spec := "closeSteps", unfollowed := true, recurses := true, apart := false, narrowed := true }
def CloseStepsUptoSaid : Prop := closeStepsUptoRow.holds Try.pinned (OpenSpec.upto closeStepsSpec)

end Rows
end Go.Proofs.Ytbpjlpokmnmmmaa

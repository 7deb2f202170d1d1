/-
  No cell of these rows narrows 'for every input' (looked for: loops, veiled, ifaces, maps, wideKeys, modest, calm, conditions, laid).
  DERIVED. THE GIVEN ROWS OF THIS SEAT. 6 by the template 'for every input the law returns true; each argument reads behind the call as it read before'; 0 by the template 'total and deterministic' (their statements: YtilldpmlcgikdaaTotals.lean).
  GIVEN WITH THE SEED: the statements are not yours to turn. If you find one false, say at which input.
  Laid BY PROGRAM, IN A SANDBOX (cutbox-rows.mjs): the forced cells as the released guide's own fill.sh prints them over the translation f720ae9af5f248ef… (all of the seat's roots in one cut). By AI agents, Wed Nov 11 2026. No macro, syntax, notation, axiom, sorry.
-/
import Derived.Test.YtilldpmlcgikdaaChecked
import GoSem.Claim
import GoSem.ClaimJoined
import GoSem.ClaimMapViews
import Derived.JoinedTies
import Derived.KernelRfl
namespace Go.Proofs.Ytilldpmlcgikdaa
/- THE CELL 'sum', in the pinned program and in every row, IS THE sha256 OF THE DUMP (.gsa) THAT YtilldpmlcgikdaaProg.lean LOADS. Nothing in Lean hashes anything: it is a label: what it is worth is what the hold of that sum in a sandbox is worth. -/
noncomputable def Try.pinned : Pinned := { name := "ytilldpmlcgikdaa", sum := "f720ae9af5f248efaa350e4c2f7f8f948e4f18bccd311091bb21d60eaa1649fa", checked := Try.checked }
namespace Rows
def none {H : Type} : Left H := { results := [], args := [] }

/-- 'topiaristlaw02.ReadTells': WHATEVER THE INPUT: true; the input reads as it did. -/
def readTellsSpec : ChangeSpec := { name := "readTells", fn := fun _ => fun
  | [d1, d2] => { results := [.lit (.bool true)], args := [d1, d2] }
  | _ => none }
def readTellsRow : OpenClaim := { program := "ytilldpmlcgikdaa", sum := "f720ae9af5f248efaa350e4c2f7f8f948e4f18bccd311091bb21d60eaa1649fa", func := "topiarist/topiaristlaw02.ReadTells", spec := "readTells", unfollowed := true, recurses := true, apart := false }
def ReadTellsSaid : Prop := readTellsRow.holds Try.pinned (OpenSpec.ofChange readTellsSpec)

/-- ITS FALSE NEIGHBOUR: 'it returns false'. Refute it at one input. -/
def readTellsWrong : ChangeSpec := { name := "readTells", fn := fun _ => fun
  | [d1, d2] => { results := [.lit (.bool false)], args := [d1, d2] }
  | _ => none }
def ReadTellsWrongFalsely : Prop := readTellsRow.holds Try.pinned (OpenSpec.ofChange readTellsWrong)

/-- 'topiaristlaw02.ReadBack': WHATEVER THE INPUT: true; the input reads as it did. -/
def readBackSpec : ChangeSpec := { name := "readBack", fn := fun _ => fun
  | [d] => { results := [.lit (.bool true)], args := [d] }
  | _ => none }
def readBackRow : OpenClaim := { program := "ytilldpmlcgikdaa", sum := "f720ae9af5f248efaa350e4c2f7f8f948e4f18bccd311091bb21d60eaa1649fa", func := "topiarist/topiaristlaw02.ReadBack", spec := "readBack", unfollowed := true, recurses := true, apart := false }
def ReadBackSaid : Prop := readBackRow.holds Try.pinned (OpenSpec.ofChange readBackSpec)

/-- ITS FALSE NEIGHBOUR: 'it returns false'. Refute it at one input. -/
def readBackWrong : ChangeSpec := { name := "readBack", fn := fun _ => fun
  | [d] => { results := [.lit (.bool false)], args := [d] }
  | _ => none }
def ReadBackWrongFalsely : Prop := readBackRow.holds Try.pinned (OpenSpec.ofChange readBackWrong)

/-- 'topiaristlaw02.ReadBars': WHATEVER THE INPUT: true; the input reads as it did. -/
def readBarsSpec : ChangeSpec := { name := "readBars", fn := fun _ => fun
  | [d1, d2] => { results := [.lit (.bool true)], args := [d1, d2] }
  | _ => none }
def readBarsRow : OpenClaim := { program := "ytilldpmlcgikdaa", sum := "f720ae9af5f248efaa350e4c2f7f8f948e4f18bccd311091bb21d60eaa1649fa", func := "topiarist/topiaristlaw02.ReadBars", spec := "readBars", unfollowed := true, recurses := true, apart := false }
def ReadBarsSaid : Prop := readBarsRow.holds Try.pinned (OpenSpec.ofChange readBarsSpec)

/-- ITS FALSE NEIGHBOUR: 'it returns false'. Refute it at one input. -/
def readBarsWrong : ChangeSpec := { name := "readBars", fn := fun _ => fun
  | [d1, d2] => { results := [.lit (.bool false)], args := [d1, d2] }
  | _ => none }
def ReadBarsWrongFalsely : Prop := readBarsRow.holds Try.pinned (OpenSpec.ofChange readBarsWrong)

/-- 'topiaristlaw02.ReadCounts': WHATEVER THE INPUT: true; the input reads as it did. -/
def readCountsSpec : ChangeSpec := { name := "readCounts", fn := fun _ => fun
  | [d] => { results := [.lit (.bool true)], args := [d] }
  | _ => none }
def readCountsRow : OpenClaim := { program := "ytilldpmlcgikdaa", sum := "f720ae9af5f248efaa350e4c2f7f8f948e4f18bccd311091bb21d60eaa1649fa", func := "topiarist/topiaristlaw02.ReadCounts", spec := "readCounts", unfollowed := true, recurses := true, apart := false }
def ReadCountsSaid : Prop := readCountsRow.holds Try.pinned (OpenSpec.ofChange readCountsSpec)

/-- ITS FALSE NEIGHBOUR: 'it returns false'. Refute it at one input. -/
def readCountsWrong : ChangeSpec := { name := "readCounts", fn := fun _ => fun
  | [d] => { results := [.lit (.bool false)], args := [d] }
  | _ => none }
def ReadCountsWrongFalsely : Prop := readCountsRow.holds Try.pinned (OpenSpec.ofChange readCountsWrong)

/-- 'topiaristlaw02.ReadRow': WHATEVER THE INPUT: true; the input reads as it did. -/
def readRowSpec : ChangeSpec := { name := "readRow", fn := fun _ => fun
  | [d1, d2] => { results := [.lit (.bool true)], args := [d1, d2] }
  | _ => none }
def readRowRow : OpenClaim := { program := "ytilldpmlcgikdaa", sum := "f720ae9af5f248efaa350e4c2f7f8f948e4f18bccd311091bb21d60eaa1649fa", func := "topiarist/topiaristlaw02.ReadRow", spec := "readRow", unfollowed := true, recurses := true, apart := false }
def ReadRowSaid : Prop := readRowRow.holds Try.pinned (OpenSpec.ofChange readRowSpec)

/-- ITS FALSE NEIGHBOUR: 'it returns false'. Refute it at one input. -/
def readRowWrong : ChangeSpec := { name := "readRow", fn := fun _ => fun
  | [d1, d2] => { results := [.lit (.bool false)], args := [d1, d2] }
  | _ => none }
def ReadRowWrongFalsely : Prop := readRowRow.holds Try.pinned (OpenSpec.ofChange readRowWrong)

/-- 'topiaristlaw02.ReadStops': WHATEVER THE INPUT: true; the input reads as it did. -/
def readStopsSpec : ChangeSpec := { name := "readStops", fn := fun _ => fun
  | [d1, d2, d3] => { results := [.lit (.bool true)], args := [d1, d2, d3] }
  | _ => none }
def readStopsRow : OpenClaim := { program := "ytilldpmlcgikdaa", sum := "f720ae9af5f248efaa350e4c2f7f8f948e4f18bccd311091bb21d60eaa1649fa", func := "topiarist/topiaristlaw02.ReadStops", spec := "readStops", unfollowed := true, recurses := true, apart := false }
def ReadStopsSaid : Prop := readStopsRow.holds Try.pinned (OpenSpec.ofChange readStopsSpec)

/-- ITS FALSE NEIGHBOUR: 'it returns false'. Refute it at one input. -/
def readStopsWrong : ChangeSpec := { name := "readStops", fn := fun _ => fun
  | [d1, d2, d3] => { results := [.lit (.bool false)], args := [d1, d2, d3] }
  | _ => none }
def ReadStopsWrongFalsely : Prop := readStopsRow.holds Try.pinned (OpenSpec.ofChange readStopsWrong)

/- THE SECOND FORM. 'bulk': how many values and letters a reading holds, each counted each time it is reached (what is shared counts as often as it is met; a slice's spare places count too). A statement '..UptoSaid' is the law's where the arguments, and the package variables that the reading takes, are together of bulk at most 1048576: NARROWER than '..Said'. Prove '..Said' where nothing that the law and all that it calls make is longer than what came in: it says more and counts as full. Else prove '..UptoSaid'. A law counts once. -/
mutual
def uptoBulk {H : Type} : DataW H → Nat
  | .lit (.string bytes) => bytes.length + 1
  | .lit _ => 1
  | .nil => 1
  | .ptr d => uptoBulk d + 1
  | .slice elems spare => uptoBulkAll elems + uptoBulkAll spare + 1
  | .agg parts => uptoBulkAll parts + 1
  | .iface _ d => uptoBulk d + 1
  | .map entries => uptoBulkEntries entries + 1
  | .held _ => 1
def uptoBulkAll {H : Type} : List (DataW H) → Nat
  | [] => 0
  | d :: r => uptoBulk d + uptoBulkAll r
def uptoBulkEntries {H : Type} : List (Lit × DataW H) → Nat
  | [] => 0
  | x :: r => uptoBulkEntry x + uptoBulkEntries r
def uptoBulkEntry {H : Type} : Lit × DataW H → Nat
  | (.string bytes, d) => bytes.length + uptoBulk d + 1
  | (_, d) => uptoBulk d + 1
 end
def uptoSmall : (H : Type) → List (DataW H) → Bool := fun _ ds => decide (uptoBulkAll ds ≤ 1048576)
def OpenSpec.upto (s : _root_.Go.ChangeSpec) : _root_.Go.OpenSpec := { _root_.Go.OpenSpec.ofChange s with cond := some uptoSmall }

/-- 'topiaristlaw02.ReadTells', WHERE WHAT IT READS IS OF BULK AT MOST 1048576: true; the input reads as it did. -/
def readTellsUptoRow : OpenClaim := { program := "ytilldpmlcgikdaa", sum := "f720ae9af5f248efaa350e4c2f7f8f948e4f18bccd311091bb21d60eaa1649fa", func := "topiarist/topiaristlaw02.ReadTells", spec := "readTells", unfollowed := true, recurses := true, apart := false, narrowed := true }
def ReadTellsUptoSaid : Prop := readTellsUptoRow.holds Try.pinned (OpenSpec.upto readTellsSpec)

/-- 'topiaristlaw02.ReadBack', WHERE WHAT IT READS IS OF BULK AT MOST 1048576: true; the input reads as it did. -/
def readBackUptoRow : OpenClaim := { program := "ytilldpmlcgikdaa", sum := "f720ae9af5f248efaa350e4c2f7f8f948e4f18bccd311091bb21d60eaa1649fa", func := "topiarist/topiaristlaw02.ReadBack", spec := "readBack", unfollowed := true, recurses := true, apart := false, narrowed := true }
def ReadBackUptoSaid : Prop := readBackUptoRow.holds Try.pinned (OpenSpec.upto readBackSpec)

/-- 'topiaristlaw02.ReadBars', WHERE WHAT IT READS IS OF BULK AT MOST 1048576: true; the input reads as it did. -/
def readBarsUptoRow : OpenClaim := { program := "ytilldpmlcgikdaa", sum := "f720ae9af5f248efaa350e4c2f7f8f948e4f18bccd311091bb21d60eaa1649fa", func := "topiarist/topiaristlaw02.ReadBars", spec := "readBars", unfollowed := true, recurses := true, apart := false, narrowed := true }
def ReadBarsUptoSaid : Prop := readBarsUptoRow.holds Try.pinned (OpenSpec.upto readBarsSpec)

/-- 'topiaristlaw02.ReadCounts', WHERE WHAT IT READS IS OF BULK AT MOST 1048576: true; the input reads as it did. -/
def readCountsUptoRow : OpenClaim := { program := "ytilldpmlcgikdaa", sum := "f720ae9af5f248efaa350e4c2f7f8f948e4f18bccd311091bb21d60eaa1649fa", func := "topiarist/topiaristlaw02.ReadCounts", spec := "readCounts", unfollowed := true, recurses := true, apart := false, narrowed := true }
def ReadCountsUptoSaid : Prop := readCountsUptoRow.holds Try.pinned (OpenSpec.upto readCountsSpec)

/-- 'topiaristlaw02.ReadRow', WHERE WHAT IT READS IS OF BULK AT MOST 1048576: true; the input reads as it did. -/
def readRowUptoRow : OpenClaim := { program := "ytilldpmlcgikdaa", sum := "f720ae9af5f248efaa350e4c2f7f8f948e4f18bccd311091bb21d60eaa1649fa", func := "topiarist/topiaristlaw02.ReadRow", spec := "readRow", unfollowed := true, recurses := true, apart := false, narrowed := true }
def ReadRowUptoSaid : Prop := readRowUptoRow.holds Try.pinned (OpenSpec.upto readRowSpec)

/-- 'topiaristlaw02.ReadStops', WHERE WHAT IT READS IS OF BULK AT MOST 1048576: true; the input reads as it did. -/
def readStopsUptoRow : OpenClaim := { program := "ytilldpmlcgikdaa", sum := "f720ae9af5f248efaa350e4c2f7f8f948e4f18bccd311091bb21d60eaa1649fa", func := "topiarist/topiaristlaw02.ReadStops", spec := "readStops", unfollowed := true, recurses := true, apart := false, narrowed := true }
def ReadStopsUptoSaid : Prop := readStopsUptoRow.holds Try.pinned (OpenSpec.upto readStopsSpec)

end Rows
end Go.Proofs.Ytilldpmlcgikdaa

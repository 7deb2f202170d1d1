/-
  No cell of these rows narrows 'for every input' (looked for: loops, veiled, ifaces, maps, wideKeys, modest, calm, conditions, laid).
  DERIVED. THE GIVEN ROWS OF THIS SEAT. 6 by the template 'for every input the law returns true; each argument reads behind the call as it read before'; 0 by the template 'total and deterministic' (their statements: YtfbncmcibfkfiaaTotals.lean).
  GIVEN WITH THE SEED: the statements are not yours to turn. If you find one false, say at which input.
  Laid BY PROGRAM, IN A SANDBOX (cutbox-rows.mjs): the forced cells as the released guide's own fill.sh prints them over the translation 1f2e40572e2b7375… (all of the seat's roots in one cut). By AI agents, Wed Nov 11 2026. No macro, syntax, notation, axiom, sorry.
-/
import Derived.Test.YtfbncmcibfkfiaaChecked
import GoSem.Claim
import GoSem.ClaimJoined
import GoSem.ClaimMapViews
import Derived.JoinedTies
import Derived.KernelRfl
namespace Go.Proofs.Ytfbncmcibfkfiaa
/- THE CELL 'sum', in the pinned program and in every row, IS THE sha256 OF THE DUMP (.gsa) THAT YtfbncmcibfkfiaaProg.lean LOADS. Nothing in Lean hashes anything: it is a label: what it is worth is what the hold of that sum in a sandbox is worth. -/
noncomputable def Try.pinned : Pinned := { name := "ytfbncmcibfkfiaa", sum := "1f2e40572e2b73750137c59939b29af6a7c9efe389d5804beadd84f68b57b905", checked := Try.checked }
namespace Rows
def none {H : Type} : Left H := { results := [], args := [] }

/-- 'topiaristlaw01.LexTells': WHATEVER THE INPUT: true; the input reads as it did. -/
def lexTellsSpec : ChangeSpec := { name := "lexTells", fn := fun _ => fun
  | [d1, d2] => { results := [.lit (.bool true)], args := [d1, d2] }
  | _ => none }
def lexTellsRow : OpenClaim := { program := "ytfbncmcibfkfiaa", sum := "1f2e40572e2b73750137c59939b29af6a7c9efe389d5804beadd84f68b57b905", func := "topiarist/topiaristlaw01.LexTells", spec := "lexTells", unfollowed := true, recurses := true, apart := false }
def LexTellsSaid : Prop := lexTellsRow.holds Try.pinned (OpenSpec.ofChange lexTellsSpec)

/-- ITS FALSE NEIGHBOUR: 'it returns false'. Refute it at one input. -/
def lexTellsWrong : ChangeSpec := { name := "lexTells", fn := fun _ => fun
  | [d1, d2] => { results := [.lit (.bool false)], args := [d1, d2] }
  | _ => none }
def LexTellsWrongFalsely : Prop := lexTellsRow.holds Try.pinned (OpenSpec.ofChange lexTellsWrong)

/-- 'topiaristlaw01.LexPlaces': WHATEVER THE INPUT: true; the input reads as it did. -/
def lexPlacesSpec : ChangeSpec := { name := "lexPlaces", fn := fun _ => fun
  | [d] => { results := [.lit (.bool true)], args := [d] }
  | _ => none }
def lexPlacesRow : OpenClaim := { program := "ytfbncmcibfkfiaa", sum := "1f2e40572e2b73750137c59939b29af6a7c9efe389d5804beadd84f68b57b905", func := "topiarist/topiaristlaw01.LexPlaces", spec := "lexPlaces", unfollowed := true, recurses := true, apart := false }
def LexPlacesSaid : Prop := lexPlacesRow.holds Try.pinned (OpenSpec.ofChange lexPlacesSpec)

/-- ITS FALSE NEIGHBOUR: 'it returns false'. Refute it at one input. -/
def lexPlacesWrong : ChangeSpec := { name := "lexPlaces", fn := fun _ => fun
  | [d] => { results := [.lit (.bool false)], args := [d] }
  | _ => none }
def LexPlacesWrongFalsely : Prop := lexPlacesRow.holds Try.pinned (OpenSpec.ofChange lexPlacesWrong)

/-- 'topiaristlaw01.LexRow': WHATEVER THE INPUT: true; the input reads as it did. -/
def lexRowSpec : ChangeSpec := { name := "lexRow", fn := fun _ => fun
  | [d1, d2] => { results := [.lit (.bool true)], args := [d1, d2] }
  | _ => none }
def lexRowRow : OpenClaim := { program := "ytfbncmcibfkfiaa", sum := "1f2e40572e2b73750137c59939b29af6a7c9efe389d5804beadd84f68b57b905", func := "topiarist/topiaristlaw01.LexRow", spec := "lexRow", unfollowed := true, recurses := true, apart := false }
def LexRowSaid : Prop := lexRowRow.holds Try.pinned (OpenSpec.ofChange lexRowSpec)

/-- ITS FALSE NEIGHBOUR: 'it returns false'. Refute it at one input. -/
def lexRowWrong : ChangeSpec := { name := "lexRow", fn := fun _ => fun
  | [d1, d2] => { results := [.lit (.bool false)], args := [d1, d2] }
  | _ => none }
def LexRowWrongFalsely : Prop := lexRowRow.holds Try.pinned (OpenSpec.ofChange lexRowWrong)

/-- 'topiaristlaw01.LexNames': WHATEVER THE INPUT: true; the input reads as it did. -/
def lexNamesSpec : ChangeSpec := { name := "lexNames", fn := fun _ => fun
  | [d] => { results := [.lit (.bool true)], args := [d] }
  | _ => none }
def lexNamesRow : OpenClaim := { program := "ytfbncmcibfkfiaa", sum := "1f2e40572e2b73750137c59939b29af6a7c9efe389d5804beadd84f68b57b905", func := "topiarist/topiaristlaw01.LexNames", spec := "lexNames", unfollowed := true, recurses := true, apart := false }
def LexNamesSaid : Prop := lexNamesRow.holds Try.pinned (OpenSpec.ofChange lexNamesSpec)

/-- ITS FALSE NEIGHBOUR: 'it returns false'. Refute it at one input. -/
def lexNamesWrong : ChangeSpec := { name := "lexNames", fn := fun _ => fun
  | [d] => { results := [.lit (.bool false)], args := [d] }
  | _ => none }
def LexNamesWrongFalsely : Prop := lexNamesRow.holds Try.pinned (OpenSpec.ofChange lexNamesWrong)

/-- 'topiaristlaw01.LexNotes': WHATEVER THE INPUT: true; the input reads as it did. -/
def lexNotesSpec : ChangeSpec := { name := "lexNotes", fn := fun _ => fun
  | [d1, d2, d3] => { results := [.lit (.bool true)], args := [d1, d2, d3] }
  | _ => none }
def lexNotesRow : OpenClaim := { program := "ytfbncmcibfkfiaa", sum := "1f2e40572e2b73750137c59939b29af6a7c9efe389d5804beadd84f68b57b905", func := "topiarist/topiaristlaw01.LexNotes", spec := "lexNotes", unfollowed := true, recurses := true, apart := false }
def LexNotesSaid : Prop := lexNotesRow.holds Try.pinned (OpenSpec.ofChange lexNotesSpec)

/-- ITS FALSE NEIGHBOUR: 'it returns false'. Refute it at one input. -/
def lexNotesWrong : ChangeSpec := { name := "lexNotes", fn := fun _ => fun
  | [d1, d2, d3] => { results := [.lit (.bool false)], args := [d1, d2, d3] }
  | _ => none }
def LexNotesWrongFalsely : Prop := lexNotesRow.holds Try.pinned (OpenSpec.ofChange lexNotesWrong)

/-- 'topiaristlaw01.LexKinds': WHATEVER THE INPUT: true; the input reads as it did. -/
def lexKindsSpec : ChangeSpec := { name := "lexKinds", fn := fun _ => fun
  | [d] => { results := [.lit (.bool true)], args := [d] }
  | _ => none }
def lexKindsRow : OpenClaim := { program := "ytfbncmcibfkfiaa", sum := "1f2e40572e2b73750137c59939b29af6a7c9efe389d5804beadd84f68b57b905", func := "topiarist/topiaristlaw01.LexKinds", spec := "lexKinds", unfollowed := true, recurses := true, apart := false }
def LexKindsSaid : Prop := lexKindsRow.holds Try.pinned (OpenSpec.ofChange lexKindsSpec)

/-- ITS FALSE NEIGHBOUR: 'it returns false'. Refute it at one input. -/
def lexKindsWrong : ChangeSpec := { name := "lexKinds", fn := fun _ => fun
  | [d] => { results := [.lit (.bool false)], args := [d] }
  | _ => none }
def LexKindsWrongFalsely : Prop := lexKindsRow.holds Try.pinned (OpenSpec.ofChange lexKindsWrong)

/- THE SECOND FORM. 'bulk': how many values and letters a reading holds, each counted each time it is reached (what is shared counts as often as it is met; a slice's spare places count too). A statement '..UptoSaid' is the law's where the arguments, and the package variables that the reading takes, are together of bulk at most 1048576: NARROWER than '..Said'. Prove '..Said' where nothing that the law and all that it calls make is longer than what came in: it says more and counts as full. Else prove '..UptoSaid'. A law counts once. -/
mutual
def uptoBulk {H : Type} : DataW H → Nat
  | .lit (.string bytes) => bytes.length + 1
  | .lit _ => 1
  | .nil => 1
  | .ptr d => uptoBulk d + 1
  | .slice elems spare => uptoBulkAll elems + uptoBulkAll spare + 1
  | .agg parts => uptoBulkAll parts + 1
  | .iface _ d => uptoBulk d + 1
  | .map entries => uptoBulkEntries entries + 1
  | .held _ => 1
def uptoBulkAll {H : Type} : List (DataW H) → Nat
  | [] => 0
  | d :: r => uptoBulk d + uptoBulkAll r
def uptoBulkEntries {H : Type} : List (Lit × DataW H) → Nat
  | [] => 0
  | x :: r => uptoBulkEntry x + uptoBulkEntries r
def uptoBulkEntry {H : Type} : Lit × DataW H → Nat
  | (.string bytes, d) => bytes.length + uptoBulk d + 1
  | (_, d) => uptoBulk d + 1
 end
def uptoSmall : (H : Type) → List (DataW H) → Bool := fun _ ds => decide (uptoBulkAll ds ≤ 1048576)
def OpenSpec.upto (s : _root_.Go.ChangeSpec) : _root_.Go.OpenSpec := { _root_.Go.OpenSpec.ofChange s with cond := some uptoSmall }

/-- 'topiaristlaw01.LexTells', WHERE WHAT IT READS IS OF BULK AT MOST 1048576: true; the input reads as it did. -/
def lexTellsUptoRow : OpenClaim := { program := "ytfbncmcibfkfiaa", sum := "1f2e40572e2b73750137c59939b29af6a7c9efe389d5804beadd84f68b57b905", func := "topiarist/topiaristlaw01.LexTells", spec := "lexTells", unfollowed := true, recurses := true, apart := false, narrowed := true }
def LexTellsUptoSaid : Prop := lexTellsUptoRow.holds Try.pinned (OpenSpec.upto lexTellsSpec)

/-- 'topiaristlaw01.LexPlaces', WHERE WHAT IT READS IS OF BULK AT MOST 1048576: true; the input reads as it did. -/
def lexPlacesUptoRow : OpenClaim := { program := "ytfbncmcibfkfiaa", sum := "1f2e40572e2b73750137c59939b29af6a7c9efe389d5804beadd84f68b57b905", func := "topiarist/topiaristlaw01.LexPlaces", spec := "lexPlaces", unfollowed := true, recurses := true, apart := false, narrowed := true }
def LexPlacesUptoSaid : Prop := lexPlacesUptoRow.holds Try.pinned (OpenSpec.upto lexPlacesSpec)

/-- 'topiaristlaw01.LexRow', WHERE WHAT IT READS IS OF BULK AT MOST 1048576: true; the input reads as it did. -/
def lexRowUptoRow : OpenClaim := { program := "ytfbncmcibfkfiaa", sum := "1f2e40572e2b73750137c59939b29af6a7c9efe389d5804beadd84f68b57b905", func := "topiarist/topiaristlaw01.LexRow", spec := "lexRow", unfollowed := true, recurses := true, apart := false, narrowed := true }
def LexRowUptoSaid : Prop := lexRowUptoRow.holds Try.pinned (OpenSpec.upto lexRowSpec)

/-- 'topiaristlaw01.LexNames', WHERE WHAT IT READS IS OF BULK AT MOST 1048576: true; the input reads as it did. -/
def lexNamesUptoRow : OpenClaim := { program := "ytfbncmcibfkfiaa", sum := "1f2e40572e2b73750137c59939b29af6a7c9efe389d5804beadd84f68b57b905", func := "topiarist/topiaristlaw01.LexNames", spec := "lexNames", unfollowed := true, recurses := true, apart := false, narrowed := true }
def LexNamesUptoSaid : Prop := lexNamesUptoRow.holds Try.pinned (OpenSpec.upto lexNamesSpec)

/-- 'topiaristlaw01.LexNotes', WHERE WHAT IT READS IS OF BULK AT MOST 1048576: true; the input reads as it did. -/
def lexNotesUptoRow : OpenClaim := { program := "ytfbncmcibfkfiaa", sum := "1f2e40572e2b73750137c59939b29af6a7c9efe389d5804beadd84f68b57b905", func := "topiarist/topiaristlaw01.LexNotes", spec := "lexNotes", unfollowed := true, recurses := true, apart := false, narrowed := true }
def LexNotesUptoSaid : Prop := lexNotesUptoRow.holds Try.pinned (OpenSpec.upto lexNotesSpec)

/-- 'topiaristlaw01.LexKinds', WHERE WHAT IT READS IS OF BULK AT MOST 1048576: true; the input reads as it did. -/
def lexKindsUptoRow : OpenClaim := { program := "ytfbncmcibfkfiaa", sum := "1f2e40572e2b73750137c59939b29af6a7c9efe389d5804beadd84f68b57b905", func := "topiarist/topiaristlaw01.LexKinds", spec := "lexKinds", unfollowed := true, recurses := true, apart := false, narrowed := true }
def LexKindsUptoSaid : Prop := lexKindsUptoRow.holds Try.pinned (OpenSpec.upto lexKindsSpec)

end Rows
end Go.Proofs.Ytfbncmcibfkfiaa

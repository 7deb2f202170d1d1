/-
  No cell of these rows narrows 'for every input' (looked for: loops, veiled, ifaces, maps, wideKeys, modest, calm, conditions, laid).
  DERIVED. THE GIVEN ROWS OF THIS SEAT. 4 by the template 'for every input the law returns true; each argument reads behind the call as it read before'; 0 by the template 'total and deterministic' (their statements: YtncgbkmhigdflaaTotals.lean).
  GIVEN WITH THE SEED: the statements are not yours to turn. If you find one false, say at which input.
  Laid BY PROGRAM, IN A SANDBOX (cutbox-rows.mjs): the forced cells as the released guide's own fill.sh prints them over the translation 01b9df72b7c918d8… (all of the seat's roots in one cut). By AI agents, Wed Nov 11 2026. No macro, syntax, notation, axiom, sorry.
-/
import Derived.Test.YtncgbkmhigdflaaChecked
import GoSem.Claim
import GoSem.ClaimJoined
import GoSem.ClaimMapViews
import Derived.JoinedTies
import Derived.KernelRfl
namespace Go.Proofs.Ytncgbkmhigdflaa
/- THE CELL 'sum', in the pinned program and in every row, IS THE sha256 OF THE DUMP (.gsa) THAT YtncgbkmhigdflaaProg.lean LOADS. Nothing in Lean hashes anything: it is a label: what it is worth is what the hold of that sum in a sandbox is worth. -/
noncomputable def Try.pinned : Pinned := { name := "ytncgbkmhigdflaa", sum := "01b9df72b7c918d814e9e831d99ffacd90af6cf646b3c830b7dd0c71a7dbbc89", checked := Try.checked }
namespace Rows
def none {H : Type} : Left H := { results := [], args := [] }

/-- 'topiaristlaw20.BytesTell': WHATEVER THE INPUT: true; the input reads as it did. -/
def bytesTellSpec : ChangeSpec := { name := "bytesTell", fn := fun _ => fun
  | [d1, d2, d3] => { results := [.lit (.bool true)], args := [d1, d2, d3] }
  | _ => none }
def bytesTellRow : OpenClaim := { program := "ytncgbkmhigdflaa", sum := "01b9df72b7c918d814e9e831d99ffacd90af6cf646b3c830b7dd0c71a7dbbc89", func := "topiarist/topiaristlaw20.BytesTell", spec := "bytesTell", unfollowed := true, recurses := true, apart := false }
def BytesTellSaid : Prop := bytesTellRow.holds Try.pinned (OpenSpec.ofChange bytesTellSpec)

/-- ITS FALSE NEIGHBOUR: 'it returns false'. Refute it at one input. -/
def bytesTellWrong : ChangeSpec := { name := "bytesTell", fn := fun _ => fun
  | [d1, d2, d3] => { results := [.lit (.bool false)], args := [d1, d2, d3] }
  | _ => none }
def BytesTellWrongFalsely : Prop := bytesTellRow.holds Try.pinned (OpenSpec.ofChange bytesTellWrong)

/-- 'topiaristlaw20.BytesBack': WHATEVER THE INPUT: true; the input reads as it did. -/
def bytesBackSpec : ChangeSpec := { name := "bytesBack", fn := fun _ => fun
  | [d1, d2, d3] => { results := [.lit (.bool true)], args := [d1, d2, d3] }
  | _ => none }
def bytesBackRow : OpenClaim := { program := "ytncgbkmhigdflaa", sum := "01b9df72b7c918d814e9e831d99ffacd90af6cf646b3c830b7dd0c71a7dbbc89", func := "topiarist/topiaristlaw20.BytesBack", spec := "bytesBack", unfollowed := true, recurses := true, apart := false }
def BytesBackSaid : Prop := bytesBackRow.holds Try.pinned (OpenSpec.ofChange bytesBackSpec)

/-- ITS FALSE NEIGHBOUR: 'it returns false'. Refute it at one input. -/
def bytesBackWrong : ChangeSpec := { name := "bytesBack", fn := fun _ => fun
  | [d1, d2, d3] => { results := [.lit (.bool false)], args := [d1, d2, d3] }
  | _ => none }
def BytesBackWrongFalsely : Prop := bytesBackRow.holds Try.pinned (OpenSpec.ofChange bytesBackWrong)

/-- 'topiaristlaw20.BytesNums': WHATEVER THE INPUT: true; the input reads as it did. -/
def bytesNumsSpec : ChangeSpec := { name := "bytesNums", fn := fun _ => fun
  | [d1, d2] => { results := [.lit (.bool true)], args := [d1, d2] }
  | _ => none }
def bytesNumsRow : OpenClaim := { program := "ytncgbkmhigdflaa", sum := "01b9df72b7c918d814e9e831d99ffacd90af6cf646b3c830b7dd0c71a7dbbc89", func := "topiarist/topiaristlaw20.BytesNums", spec := "bytesNums", unfollowed := true, recurses := true, apart := false }
def BytesNumsSaid : Prop := bytesNumsRow.holds Try.pinned (OpenSpec.ofChange bytesNumsSpec)

/-- ITS FALSE NEIGHBOUR: 'it returns false'. Refute it at one input. -/
def bytesNumsWrong : ChangeSpec := { name := "bytesNums", fn := fun _ => fun
  | [d1, d2] => { results := [.lit (.bool false)], args := [d1, d2] }
  | _ => none }
def BytesNumsWrongFalsely : Prop := bytesNumsRow.holds Try.pinned (OpenSpec.ofChange bytesNumsWrong)

/-- 'topiaristlaw20.BytesSums': WHATEVER THE INPUT: true; the input reads as it did. -/
def bytesSumsSpec : ChangeSpec := { name := "bytesSums", fn := fun _ => fun
  | [d1, d2, d3] => { results := [.lit (.bool true)], args := [d1, d2, d3] }
  | _ => none }
def bytesSumsRow : OpenClaim := { program := "ytncgbkmhigdflaa", sum := "01b9df72b7c918d814e9e831d99ffacd90af6cf646b3c830b7dd0c71a7dbbc89", func := "topiarist/topiaristlaw20.BytesSums", spec := "bytesSums", unfollowed := true, recurses := true, apart := false }
def BytesSumsSaid : Prop := bytesSumsRow.holds Try.pinned (OpenSpec.ofChange bytesSumsSpec)

/-- ITS FALSE NEIGHBOUR: 'it returns false'. Refute it at one input. -/
def bytesSumsWrong : ChangeSpec := { name := "bytesSums", fn := fun _ => fun
  | [d1, d2, d3] => { results := [.lit (.bool false)], args := [d1, d2, d3] }
  | _ => none }
def BytesSumsWrongFalsely : Prop := bytesSumsRow.holds Try.pinned (OpenSpec.ofChange bytesSumsWrong)

/- THE SECOND FORM. 'bulk': how many values and letters a reading holds, each counted each time it is reached (what is shared counts as often as it is met; a slice's spare places count too). A statement '..UptoSaid' is the law's where the arguments, and the package variables that the reading takes, are together of bulk at most 1048576: NARROWER than '..Said'. Prove '..Said' where nothing that the law and all that it calls make is longer than what came in: it says more and counts as full. Else prove '..UptoSaid'. A law counts once. -/
mutual
def uptoBulk {H : Type} : DataW H → Nat
  | .lit (.string bytes) => bytes.length + 1
  | .lit _ => 1
  | .nil => 1
  | .ptr d => uptoBulk d + 1
  | .slice elems spare => uptoBulkAll elems + uptoBulkAll spare + 1
  | .agg parts => uptoBulkAll parts + 1
  | .iface _ d => uptoBulk d + 1
  | .map entries => uptoBulkEntries entries + 1
  | .held _ => 1
def uptoBulkAll {H : Type} : List (DataW H) → Nat
  | [] => 0
  | d :: r => uptoBulk d + uptoBulkAll r
def uptoBulkEntries {H : Type} : List (Lit × DataW H) → Nat
  | [] => 0
  | x :: r => uptoBulkEntry x + uptoBulkEntries r
def uptoBulkEntry {H : Type} : Lit × DataW H → Nat
  | (.string bytes, d) => bytes.length + uptoBulk d + 1
  | (_, d) => uptoBulk d + 1
 end
def uptoSmall : (H : Type) → List (DataW H) → Bool := fun _ ds => decide (uptoBulkAll ds ≤ 1048576)
def OpenSpec.upto (s : _root_.Go.ChangeSpec) : _root_.Go.OpenSpec := { _root_.Go.OpenSpec.ofChange s with cond := some uptoSmall }

/-- 'topiaristlaw20.BytesTell', WHERE WHAT IT READS IS OF BULK AT MOST 1048576: true; the input reads as it did. -/
def bytesTellUptoRow : OpenClaim := { program := "ytncgbkmhigdflaa", sum := "01b9df72b7c918d814e9e831d99ffacd90af6cf646b3c830b7dd0c71a7dbbc89", func := "topiarist/topiaristlaw20.BytesTell", spec := "bytesTell", unfollowed := true, recurses := true, apart := false, narrowed := true }
def BytesTellUptoSaid : Prop := bytesTellUptoRow.holds Try.pinned (OpenSpec.upto bytesTellSpec)

/-- 'topiaristlaw20.BytesBack', WHERE WHAT IT READS IS OF BULK AT MOST 1048576: true; the input reads as it did. -/
def bytesBackUptoRow : OpenClaim := { program := "ytncgbkmhigdflaa", sum := "01b9df72b7c918d814e9e831d99ffacd90af6cf646b3c830b7dd0c71a7dbbc89", func := "topiarist/topiaristlaw20.BytesBack", spec := "bytesBack", unfollowed := true, recurses := true, apart := false, narrowed := true }
def BytesBackUptoSaid : Prop := bytesBackUptoRow.holds Try.pinned (OpenSpec.upto bytesBackSpec)

/-- 'topiaristlaw20.BytesNums', WHERE WHAT IT READS IS OF BULK AT MOST 1048576: true; the input reads as it did. -/
def bytesNumsUptoRow : OpenClaim := { program := "ytncgbkmhigdflaa", sum := "01b9df72b7c918d814e9e831d99ffacd90af6cf646b3c830b7dd0c71a7dbbc89", func := "topiarist/topiaristlaw20.BytesNums", spec := "bytesNums", unfollowed := true, recurses := true, apart := false, narrowed := true }
def BytesNumsUptoSaid : Prop := bytesNumsUptoRow.holds Try.pinned (OpenSpec.upto bytesNumsSpec)

/-- 'topiaristlaw20.BytesSums', WHERE WHAT IT READS IS OF BULK AT MOST 1048576: true; the input reads as it did. -/
def bytesSumsUptoRow : OpenClaim := { program := "ytncgbkmhigdflaa", sum := "01b9df72b7c918d814e9e831d99ffacd90af6cf646b3c830b7dd0c71a7dbbc89", func := "topiarist/topiaristlaw20.BytesSums", spec := "bytesSums", unfollowed := true, recurses := true, apart := false, narrowed := true }
def BytesSumsUptoSaid : Prop := bytesSumsUptoRow.holds Try.pinned (OpenSpec.upto bytesSumsSpec)

end Rows
end Go.Proofs.Ytncgbkmhigdflaa

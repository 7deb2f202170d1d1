/-
  No cell of these rows narrows 'for every input' (looked for: loops, veiled, ifaces, maps, wideKeys, modest, calm, conditions, laid).
  DERIVED. THE GIVEN ROWS OF THIS SEAT. 4 by the template 'for every input the law returns true; each argument reads behind the call as it read before'; 0 by the template 'total and deterministic' (their statements: YtdkgbkmaeeicoaaTotals.lean).
  GIVEN WITH THE SEED: the statements are not yours to turn. If you find one false, say at which input.
  Laid BY PROGRAM, IN A SANDBOX (cutbox-rows.mjs): the forced cells as the released guide's own fill.sh prints them over the translation 778e047d09d61c8f… (all of the seat's roots in one cut). By AI agents, Wed Nov 11 2026. No macro, syntax, notation, axiom, sorry.
-/
import Derived.Test.YtdkgbkmaeeicoaaChecked
import GoSem.Claim
import GoSem.ClaimJoined
import GoSem.ClaimMapViews
import Derived.JoinedTies
import Derived.KernelRfl
namespace Go.Proofs.Ytdkgbkmaeeicoaa
/- THE CELL 'sum', in the pinned program and in every row, IS THE sha256 OF THE DUMP (.gsa) THAT YtdkgbkmaeeicoaaProg.lean LOADS. Nothing in Lean hashes anything: it is a label: what it is worth is what the hold of that sum in a sandbox is worth. -/
noncomputable def Try.pinned : Pinned := { name := "ytdkgbkmaeeicoaa", sum := "778e047d09d61c8f8057d8655799b93563a8b10ec9934c604914b0f7924c4b01", checked := Try.checked }
namespace Rows
def none {H : Type} : Left H := { results := [], args := [] }

/-- 'topiaristlaw22.StackPlays': WHATEVER THE INPUT: true; the input reads as it did. -/
def stackPlaysSpec : ChangeSpec := { name := "stackPlays", fn := fun _ => fun
  | [d] => { results := [.lit (.bool true)], args := [d] }
  | _ => none }
def stackPlaysRow : OpenClaim := { program := "ytdkgbkmaeeicoaa", sum := "778e047d09d61c8f8057d8655799b93563a8b10ec9934c604914b0f7924c4b01", func := "topiarist/topiaristlaw22.StackPlays", spec := "stackPlays", plainKeys := false, apart := false }
def StackPlaysSaid : Prop := stackPlaysRow.holds Try.pinned (OpenSpec.ofChange stackPlaysSpec)

/-- ITS FALSE NEIGHBOUR: 'it returns false'. Refute it at one input. -/
def stackPlaysWrong : ChangeSpec := { name := "stackPlays", fn := fun _ => fun
  | [d] => { results := [.lit (.bool false)], args := [d] }
  | _ => none }
def StackPlaysWrongFalsely : Prop := stackPlaysRow.holds Try.pinned (OpenSpec.ofChange stackPlaysWrong)

/-- 'topiaristlaw22.StackOnce': WHATEVER THE INPUT: true; the input reads as it did. -/
def stackOnceSpec : ChangeSpec := { name := "stackOnce", fn := fun _ => fun
  | [d] => { results := [.lit (.bool true)], args := [d] }
  | _ => none }
def stackOnceRow : OpenClaim := { program := "ytdkgbkmaeeicoaa", sum := "778e047d09d61c8f8057d8655799b93563a8b10ec9934c604914b0f7924c4b01", func := "topiarist/topiaristlaw22.StackOnce", spec := "stackOnce", plainKeys := false, apart := false }
def StackOnceSaid : Prop := stackOnceRow.holds Try.pinned (OpenSpec.ofChange stackOnceSpec)

/-- ITS FALSE NEIGHBOUR: 'it returns false'. Refute it at one input. -/
def stackOnceWrong : ChangeSpec := { name := "stackOnce", fn := fun _ => fun
  | [d] => { results := [.lit (.bool false)], args := [d] }
  | _ => none }
def StackOnceWrongFalsely : Prop := stackOnceRow.holds Try.pinned (OpenSpec.ofChange stackOnceWrong)

/-- 'topiaristlaw22.StackNone': WHATEVER THE INPUT: true; the input reads as it did. -/
def stackNoneSpec : ChangeSpec := { name := "stackNone", fn := fun _ => fun
  | [d] => { results := [.lit (.bool true)], args := [d] }
  | _ => none }
def stackNoneRow : OpenClaim := { program := "ytdkgbkmaeeicoaa", sum := "778e047d09d61c8f8057d8655799b93563a8b10ec9934c604914b0f7924c4b01", func := "topiarist/topiaristlaw22.StackNone", spec := "stackNone", plainKeys := false, apart := false }
def StackNoneSaid : Prop := stackNoneRow.holds Try.pinned (OpenSpec.ofChange stackNoneSpec)

/-- ITS FALSE NEIGHBOUR: 'it returns false'. Refute it at one input. -/
def stackNoneWrong : ChangeSpec := { name := "stackNone", fn := fun _ => fun
  | [d] => { results := [.lit (.bool false)], args := [d] }
  | _ => none }
def StackNoneWrongFalsely : Prop := stackNoneRow.holds Try.pinned (OpenSpec.ofChange stackNoneWrong)

/-- 'topiaristlaw22.StackOrder': WHATEVER THE INPUT: true; the input reads as it did. -/
def stackOrderSpec : ChangeSpec := { name := "stackOrder", fn := fun _ => fun
  | [d] => { results := [.lit (.bool true)], args := [d] }
  | _ => none }
def stackOrderRow : OpenClaim := { program := "ytdkgbkmaeeicoaa", sum := "778e047d09d61c8f8057d8655799b93563a8b10ec9934c604914b0f7924c4b01", func := "topiarist/topiaristlaw22.StackOrder", spec := "stackOrder", plainKeys := false, apart := false }
def StackOrderSaid : Prop := stackOrderRow.holds Try.pinned (OpenSpec.ofChange stackOrderSpec)

/-- ITS FALSE NEIGHBOUR: 'it returns false'. Refute it at one input. -/
def stackOrderWrong : ChangeSpec := { name := "stackOrder", fn := fun _ => fun
  | [d] => { results := [.lit (.bool false)], args := [d] }
  | _ => none }
def StackOrderWrongFalsely : Prop := stackOrderRow.holds Try.pinned (OpenSpec.ofChange stackOrderWrong)

/- THE SECOND FORM. 'bulk': how many values and letters a reading holds, each counted each time it is reached (what is shared counts as often as it is met; a slice's spare places count too). A statement '..UptoSaid' is the law's where the arguments, and the package variables that the reading takes, are together of bulk at most 1048576: NARROWER than '..Said'. Prove '..Said' where nothing that the law and all that it calls make is longer than what came in: it says more and counts as full. Else prove '..UptoSaid'. A law counts once. -/
mutual
def uptoBulk {H : Type} : DataW H → Nat
  | .lit (.string bytes) => bytes.length + 1
  | .lit _ => 1
  | .nil => 1
  | .ptr d => uptoBulk d + 1
  | .slice elems spare => uptoBulkAll elems + uptoBulkAll spare + 1
  | .agg parts => uptoBulkAll parts + 1
  | .iface _ d => uptoBulk d + 1
  | .map entries => uptoBulkEntries entries + 1
  | .held _ => 1
def uptoBulkAll {H : Type} : List (DataW H) → Nat
  | [] => 0
  | d :: r => uptoBulk d + uptoBulkAll r
def uptoBulkEntries {H : Type} : List (Lit × DataW H) → Nat
  | [] => 0
  | x :: r => uptoBulkEntry x + uptoBulkEntries r
def uptoBulkEntry {H : Type} : Lit × DataW H → Nat
  | (.string bytes, d) => bytes.length + uptoBulk d + 1
  | (_, d) => uptoBulk d + 1
 end
def uptoSmall : (H : Type) → List (DataW H) → Bool := fun _ ds => decide (uptoBulkAll ds ≤ 1048576)
def OpenSpec.upto (s : _root_.Go.ChangeSpec) : _root_.Go.OpenSpec := { _root_.Go.OpenSpec.ofChange s with cond := some uptoSmall }

/-- 'topiaristlaw22.StackPlays', WHERE WHAT IT READS IS OF BULK AT MOST 1048576: true; the input reads as it did. -/
def stackPlaysUptoRow : OpenClaim := { program := "ytdkgbkmaeeicoaa", sum := "778e047d09d61c8f8057d8655799b93563a8b10ec9934c604914b0f7924c4b01", func := "topiarist/topiaristlaw22.StackPlays", spec := "stackPlays", plainKeys := false, apart := false, narrowed := true }
def StackPlaysUptoSaid : Prop := stackPlaysUptoRow.holds Try.pinned (OpenSpec.upto stackPlaysSpec)

/-- 'topiaristlaw22.StackOnce', WHERE WHAT IT READS IS OF BULK AT MOST 1048576: true; the input reads as it did. -/
def stackOnceUptoRow : OpenClaim := { program := "ytdkgbkmaeeicoaa", sum := "778e047d09d61c8f8057d8655799b93563a8b10ec9934c604914b0f7924c4b01", func := "topiarist/topiaristlaw22.StackOnce", spec := "stackOnce", plainKeys := false, apart := false, narrowed := true }
def StackOnceUptoSaid : Prop := stackOnceUptoRow.holds Try.pinned (OpenSpec.upto stackOnceSpec)

/-- 'topiaristlaw22.StackNone', WHERE WHAT IT READS IS OF BULK AT MOST 1048576: true; the input reads as it did. -/
def stackNoneUptoRow : OpenClaim := { program := "ytdkgbkmaeeicoaa", sum := "778e047d09d61c8f8057d8655799b93563a8b10ec9934c604914b0f7924c4b01", func := "topiarist/topiaristlaw22.StackNone", spec := "stackNone", plainKeys := false, apart := false, narrowed := true }
def StackNoneUptoSaid : Prop := stackNoneUptoRow.holds Try.pinned (OpenSpec.upto stackNoneSpec)

/-- 'topiaristlaw22.StackOrder', WHERE WHAT IT READS IS OF BULK AT MOST 1048576: true; the input reads as it did. -/
def stackOrderUptoRow : OpenClaim := { program := "ytdkgbkmaeeicoaa", sum := "778e047d09d61c8f8057d8655799b93563a8b10ec9934c604914b0f7924c4b01", func := "topiarist/topiaristlaw22.StackOrder", spec := "stackOrder", plainKeys := false, apart := false, narrowed := true }
def StackOrderUptoSaid : Prop := stackOrderUptoRow.holds Try.pinned (OpenSpec.upto stackOrderSpec)

end Rows
end Go.Proofs.Ytdkgbkmaeeicoaa

/-
  No cell of these rows narrows 'for every input' (looked for: loops, veiled, ifaces, maps, wideKeys, modest, calm, conditions, laid).
  DERIVED. THE GIVEN ROWS OF THIS SEAT. 8 by the template 'for every input the law returns true; each argument reads behind the call as it read before'; 0 by the template 'total and deterministic' (their statements: YtfjfbapiheehaaaTotals.lean).
  GIVEN WITH THE SEED: the statements are not yours to turn. If you find one false, say at which input.
  Laid BY PROGRAM, IN A SANDBOX (cutbox-rows.mjs): the forced cells as the released guide's own fill.sh prints them over the translation 01c147a776427d84… (all of the seat's roots in one cut). By AI agents, Wed Nov 11 2026. No macro, syntax, notation, axiom, sorry.
-/
import Derived.Test.YtfjfbapiheehaaaChecked
import GoSem.Claim
import GoSem.ClaimJoined
import GoSem.ClaimMapViews
import Derived.JoinedTies
import Derived.KernelRfl
namespace Go.Proofs.Ytfjfbapiheehaaa
/- THE CELL 'sum', in the pinned program and in every row, IS THE sha256 OF THE DUMP (.gsa) THAT YtfjfbapiheehaaaProg.lean LOADS. Nothing in Lean hashes anything: it is a label: what it is worth is what the hold of that sum in a sandbox is worth. -/
noncomputable def Try.pinned : Pinned := { name := "ytfjfbapiheehaaa", sum := "01c147a776427d84d6a5e88539873ba95f89869235467e1e43ffe75011a78625", checked := Try.checked }
namespace Rows
def none {H : Type} : Left H := { results := [], args := [] }

/-- 'topiaristlaw10.DependTells': WHATEVER THE INPUT: true; the input reads as it did. -/
def dependTellsSpec : ChangeSpec := { name := "dependTells", fn := fun _ => fun
  | [d1, d2] => { results := [.lit (.bool true)], args := [d1, d2] }
  | _ => none }
def dependTellsRow : OpenClaim := { program := "ytfjfbapiheehaaa", sum := "01c147a776427d84d6a5e88539873ba95f89869235467e1e43ffe75011a78625", func := "topiarist/topiaristlaw10.DependTells", spec := "dependTells", unfollowed := true, recurses := true, plainKeys := false, apart := false }
def DependTellsSaid : Prop := dependTellsRow.holds Try.pinned (OpenSpec.ofChange dependTellsSpec)

/-- ITS FALSE NEIGHBOUR: 'it returns false'. Refute it at one input. -/
def dependTellsWrong : ChangeSpec := { name := "dependTells", fn := fun _ => fun
  | [d1, d2] => { results := [.lit (.bool false)], args := [d1, d2] }
  | _ => none }
def DependTellsWrongFalsely : Prop := dependTellsRow.holds Try.pinned (OpenSpec.ofChange dependTellsWrong)

/-- 'topiaristlaw10.DependHolds': WHATEVER THE INPUT: true; the input reads as it did. -/
def dependHoldsSpec : ChangeSpec := { name := "dependHolds", fn := fun _ => fun
  | [d1, d2, d3] => { results := [.lit (.bool true)], args := [d1, d2, d3] }
  | _ => none }
def dependHoldsRow : OpenClaim := { program := "ytfjfbapiheehaaa", sum := "01c147a776427d84d6a5e88539873ba95f89869235467e1e43ffe75011a78625", func := "topiarist/topiaristlaw10.DependHolds", spec := "dependHolds", unfollowed := true, recurses := true, plainKeys := false, apart := false }
def DependHoldsSaid : Prop := dependHoldsRow.holds Try.pinned (OpenSpec.ofChange dependHoldsSpec)

/-- ITS FALSE NEIGHBOUR: 'it returns false'. Refute it at one input. -/
def dependHoldsWrong : ChangeSpec := { name := "dependHolds", fn := fun _ => fun
  | [d1, d2, d3] => { results := [.lit (.bool false)], args := [d1, d2, d3] }
  | _ => none }
def DependHoldsWrongFalsely : Prop := dependHoldsRow.holds Try.pinned (OpenSpec.ofChange dependHoldsWrong)

/-- 'topiaristlaw10.DependOrder': WHATEVER THE INPUT: true; the input reads as it did. -/
def dependOrderSpec : ChangeSpec := { name := "dependOrder", fn := fun _ => fun
  | [d1, d2] => { results := [.lit (.bool true)], args := [d1, d2] }
  | _ => none }
def dependOrderRow : OpenClaim := { program := "ytfjfbapiheehaaa", sum := "01c147a776427d84d6a5e88539873ba95f89869235467e1e43ffe75011a78625", func := "topiarist/topiaristlaw10.DependOrder", spec := "dependOrder", unfollowed := true, recurses := true, plainKeys := false, apart := false }
def DependOrderSaid : Prop := dependOrderRow.holds Try.pinned (OpenSpec.ofChange dependOrderSpec)

/-- ITS FALSE NEIGHBOUR: 'it returns false'. Refute it at one input. -/
def dependOrderWrong : ChangeSpec := { name := "dependOrder", fn := fun _ => fun
  | [d1, d2] => { results := [.lit (.bool false)], args := [d1, d2] }
  | _ => none }
def DependOrderWrongFalsely : Prop := dependOrderRow.holds Try.pinned (OpenSpec.ofChange dependOrderWrong)

/-- 'topiaristlaw10.DependSpots': WHATEVER THE INPUT: true; the input reads as it did. -/
def dependSpotsSpec : ChangeSpec := { name := "dependSpots", fn := fun _ => fun
  | [d1, d2] => { results := [.lit (.bool true)], args := [d1, d2] }
  | _ => none }
def dependSpotsRow : OpenClaim := { program := "ytfjfbapiheehaaa", sum := "01c147a776427d84d6a5e88539873ba95f89869235467e1e43ffe75011a78625", func := "topiarist/topiaristlaw10.DependSpots", spec := "dependSpots", unfollowed := true, recurses := true, plainKeys := false, apart := false }
def DependSpotsSaid : Prop := dependSpotsRow.holds Try.pinned (OpenSpec.ofChange dependSpotsSpec)

/-- ITS FALSE NEIGHBOUR: 'it returns false'. Refute it at one input. -/
def dependSpotsWrong : ChangeSpec := { name := "dependSpots", fn := fun _ => fun
  | [d1, d2] => { results := [.lit (.bool false)], args := [d1, d2] }
  | _ => none }
def DependSpotsWrongFalsely : Prop := dependSpotsRow.holds Try.pinned (OpenSpec.ofChange dependSpotsWrong)

/-- 'topiaristlaw11.EmbedTells': WHATEVER THE INPUT: true; the input reads as it did. -/
def embedTellsSpec : ChangeSpec := { name := "embedTells", fn := fun _ => fun
  | [d1, d2] => { results := [.lit (.bool true)], args := [d1, d2] }
  | _ => none }
def embedTellsRow : OpenClaim := { program := "ytfjfbapiheehaaa", sum := "01c147a776427d84d6a5e88539873ba95f89869235467e1e43ffe75011a78625", func := "topiarist/topiaristlaw11.EmbedTells", spec := "embedTells", unfollowed := true, recurses := true, plainKeys := false, apart := false }
def EmbedTellsSaid : Prop := embedTellsRow.holds Try.pinned (OpenSpec.ofChange embedTellsSpec)

/-- ITS FALSE NEIGHBOUR: 'it returns false'. Refute it at one input. -/
def embedTellsWrong : ChangeSpec := { name := "embedTells", fn := fun _ => fun
  | [d1, d2] => { results := [.lit (.bool false)], args := [d1, d2] }
  | _ => none }
def EmbedTellsWrongFalsely : Prop := embedTellsRow.holds Try.pinned (OpenSpec.ofChange embedTellsWrong)

/-- 'topiaristlaw11.EmbedLess': WHATEVER THE INPUT: true; the input reads as it did. -/
def embedLessSpec : ChangeSpec := { name := "embedLess", fn := fun _ => fun
  | [d1, d2, d3] => { results := [.lit (.bool true)], args := [d1, d2, d3] }
  | _ => none }
def embedLessRow : OpenClaim := { program := "ytfjfbapiheehaaa", sum := "01c147a776427d84d6a5e88539873ba95f89869235467e1e43ffe75011a78625", func := "topiarist/topiaristlaw11.EmbedLess", spec := "embedLess", unfollowed := true, recurses := true, plainKeys := false, apart := false }
def EmbedLessSaid : Prop := embedLessRow.holds Try.pinned (OpenSpec.ofChange embedLessSpec)

/-- ITS FALSE NEIGHBOUR: 'it returns false'. Refute it at one input. -/
def embedLessWrong : ChangeSpec := { name := "embedLess", fn := fun _ => fun
  | [d1, d2, d3] => { results := [.lit (.bool false)], args := [d1, d2, d3] }
  | _ => none }
def EmbedLessWrongFalsely : Prop := embedLessRow.holds Try.pinned (OpenSpec.ofChange embedLessWrong)

/-- 'topiaristlaw11.EmbedOnes': WHATEVER THE INPUT: true; the input reads as it did. -/
def embedOnesSpec : ChangeSpec := { name := "embedOnes", fn := fun _ => fun
  | [d] => { results := [.lit (.bool true)], args := [d] }
  | _ => none }
def embedOnesRow : OpenClaim := { program := "ytfjfbapiheehaaa", sum := "01c147a776427d84d6a5e88539873ba95f89869235467e1e43ffe75011a78625", func := "topiarist/topiaristlaw11.EmbedOnes", spec := "embedOnes", unfollowed := true, recurses := true, plainKeys := false, apart := false }
def EmbedOnesSaid : Prop := embedOnesRow.holds Try.pinned (OpenSpec.ofChange embedOnesSpec)

/-- ITS FALSE NEIGHBOUR: 'it returns false'. Refute it at one input. -/
def embedOnesWrong : ChangeSpec := { name := "embedOnes", fn := fun _ => fun
  | [d] => { results := [.lit (.bool false)], args := [d] }
  | _ => none }
def EmbedOnesWrongFalsely : Prop := embedOnesRow.holds Try.pinned (OpenSpec.ofChange embedOnesWrong)

/-- 'topiaristlaw11.EmbedHolds': WHATEVER THE INPUT: true; the input reads as it did. -/
def embedHoldsSpec : ChangeSpec := { name := "embedHolds", fn := fun _ => fun
  | [d1, d2] => { results := [.lit (.bool true)], args := [d1, d2] }
  | _ => none }
def embedHoldsRow : OpenClaim := { program := "ytfjfbapiheehaaa", sum := "01c147a776427d84d6a5e88539873ba95f89869235467e1e43ffe75011a78625", func := "topiarist/topiaristlaw11.EmbedHolds", spec := "embedHolds", unfollowed := true, recurses := true, plainKeys := false, apart := false }
def EmbedHoldsSaid : Prop := embedHoldsRow.holds Try.pinned (OpenSpec.ofChange embedHoldsSpec)

/-- ITS FALSE NEIGHBOUR: 'it returns false'. Refute it at one input. -/
def embedHoldsWrong : ChangeSpec := { name := "embedHolds", fn := fun _ => fun
  | [d1, d2] => { results := [.lit (.bool false)], args := [d1, d2] }
  | _ => none }
def EmbedHoldsWrongFalsely : Prop := embedHoldsRow.holds Try.pinned (OpenSpec.ofChange embedHoldsWrong)

/- THE SECOND FORM. 'bulk': how many values and letters a reading holds, each counted each time it is reached (what is shared counts as often as it is met; a slice's spare places count too). A statement '..UptoSaid' is the law's where the arguments, and the package variables that the reading takes, are together of bulk at most 1048576: NARROWER than '..Said'. Prove '..Said' where nothing that the law and all that it calls make is longer than what came in: it says more and counts as full. Else prove '..UptoSaid'. A law counts once. -/
mutual
def uptoBulk {H : Type} : DataW H → Nat
  | .lit (.string bytes) => bytes.length + 1
  | .lit _ => 1
  | .nil => 1
  | .ptr d => uptoBulk d + 1
  | .slice elems spare => uptoBulkAll elems + uptoBulkAll spare + 1
  | .agg parts => uptoBulkAll parts + 1
  | .iface _ d => uptoBulk d + 1
  | .map entries => uptoBulkEntries entries + 1
  | .held _ => 1
def uptoBulkAll {H : Type} : List (DataW H) → Nat
  | [] => 0
  | d :: r => uptoBulk d + uptoBulkAll r
def uptoBulkEntries {H : Type} : List (Lit × DataW H) → Nat
  | [] => 0
  | x :: r => uptoBulkEntry x + uptoBulkEntries r
def uptoBulkEntry {H : Type} : Lit × DataW H → Nat
  | (.string bytes, d) => bytes.length + uptoBulk d + 1
  | (_, d) => uptoBulk d + 1
 end
def uptoSmall : (H : Type) → List (DataW H) → Bool := fun _ ds => decide (uptoBulkAll ds ≤ 1048576)
def OpenSpec.upto (s : _root_.Go.ChangeSpec) : _root_.Go.OpenSpec := { _root_.Go.OpenSpec.ofChange s with cond := some uptoSmall }

/-- 'topiaristlaw10.DependTells', WHERE WHAT IT READS IS OF BULK AT MOST 1048576: true; the input reads as it did. -/
def dependTellsUptoRow : OpenClaim := { program := "ytfjfbapiheehaaa", sum := "01c147a776427d84d6a5e88539873ba95f89869235467e1e43ffe75011a78625", func := "topiarist/topiaristlaw10.DependTells", spec := "dependTells", unfollowed := true, recurses := true, plainKeys := false, apart := false, narrowed := true }
def DependTellsUptoSaid : Prop := dependTellsUptoRow.holds Try.pinned (OpenSpec.upto dependTellsSpec)

/-- 'topiaristlaw10.DependHolds', WHERE WHAT IT READS IS OF BULK AT MOST 1048576: true; the input reads as it did. -/
def dependHoldsUptoRow : OpenClaim := { program := "ytfjfbapiheehaaa", sum := "01c147a776427d84d6a5e88539873ba95f89869235467e1e43ffe75011a78625", func := "topiarist/topiaristlaw10.DependHolds", spec := "dependHolds", unfollowed := true, recurses := true, plainKeys := false, apart := false, narrowed := true }
def DependHoldsUptoSaid : Prop := dependHoldsUptoRow.holds Try.pinned (OpenSpec.upto dependHoldsSpec)

/-- 'topiaristlaw10.DependOrder', WHERE WHAT IT READS IS OF BULK AT MOST 1048576: true; the input reads as it did. -/
def dependOrderUptoRow : OpenClaim := { program := "ytfjfbapiheehaaa", sum := "01c147a776427d84d6a5e88539873ba95f89869235467e1e43ffe75011a78625", func := "topiarist/topiaristlaw10.DependOrder", spec := "dependOrder", unfollowed := true, recurses := true, plainKeys := false, apart := false, narrowed := true }
def DependOrderUptoSaid : Prop := dependOrderUptoRow.holds Try.pinned (OpenSpec.upto dependOrderSpec)

/-- 'topiaristlaw10.DependSpots', WHERE WHAT IT READS IS OF BULK AT MOST 1048576: true; the input reads as it did. -/
def dependSpotsUptoRow : OpenClaim := { program := "ytfjfbapiheehaaa", sum := "01c147a776427d84d6a5e88539873ba95f89869235467e1e43ffe75011a78625", func := "topiarist/topiaristlaw10.DependSpots", spec := "dependSpots", unfollowed := true, recurses := true, plainKeys := false, apart := false, narrowed := true }
def DependSpotsUptoSaid : Prop := dependSpotsUptoRow.holds Try.pinned (OpenSpec.upto dependSpotsSpec)

/-- 'topiaristlaw11.EmbedTells', WHERE WHAT IT READS IS OF BULK AT MOST 1048576: true; the input reads as it did. -/
def embedTellsUptoRow : OpenClaim := { program := "ytfjfbapiheehaaa", sum := "01c147a776427d84d6a5e88539873ba95f89869235467e1e43ffe75011a78625", func := "topiarist/topiaristlaw11.EmbedTells", spec := "embedTells", unfollowed := true, recurses := true, plainKeys := false, apart := false, narrowed := true }
def EmbedTellsUptoSaid : Prop := embedTellsUptoRow.holds Try.pinned (OpenSpec.upto embedTellsSpec)

/-- 'topiaristlaw11.EmbedLess', WHERE WHAT IT READS IS OF BULK AT MOST 1048576: true; the input reads as it did. -/
def embedLessUptoRow : OpenClaim := { program := "ytfjfbapiheehaaa", sum := "01c147a776427d84d6a5e88539873ba95f89869235467e1e43ffe75011a78625", func := "topiarist/topiaristlaw11.EmbedLess", spec := "embedLess", unfollowed := true, recurses := true, plainKeys := false, apart := false, narrowed := true }
def EmbedLessUptoSaid : Prop := embedLessUptoRow.holds Try.pinned (OpenSpec.upto embedLessSpec)

/-- 'topiaristlaw11.EmbedOnes', WHERE WHAT IT READS IS OF BULK AT MOST 1048576: true; the input reads as it did. -/
def embedOnesUptoRow : OpenClaim := { program := "ytfjfbapiheehaaa", sum := "01c147a776427d84d6a5e88539873ba95f89869235467e1e43ffe75011a78625", func := "topiarist/topiaristlaw11.EmbedOnes", spec := "embedOnes", unfollowed := true, recurses := true, plainKeys := false, apart := false, narrowed := true }
def EmbedOnesUptoSaid : Prop := embedOnesUptoRow.holds Try.pinned (OpenSpec.upto embedOnesSpec)

/-- 'topiaristlaw11.EmbedHolds', WHERE WHAT IT READS IS OF BULK AT MOST 1048576: true; the input reads as it did. -/
def embedHoldsUptoRow : OpenClaim := { program := "ytfjfbapiheehaaa", sum := "01c147a776427d84d6a5e88539873ba95f89869235467e1e43ffe75011a78625", func := "topiarist/topiaristlaw11.EmbedHolds", spec := "embedHolds", unfollowed := true, recurses := true, plainKeys := false, apart := false, narrowed := true }
def EmbedHoldsUptoSaid : Prop := embedHoldsUptoRow.holds Try.pinned (OpenSpec.upto embedHoldsSpec)

end Rows
end Go.Proofs.Ytfjfbapiheehaaa

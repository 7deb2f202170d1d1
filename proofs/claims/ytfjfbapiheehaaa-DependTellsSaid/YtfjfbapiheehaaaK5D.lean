/- What D needs of this session's own texts, part 5: put together by wip/dce.py. -/
import Derived.Test.YtfjfbapiheehaaaK4D
import Derived.Test.YtfjfbapiheehaaaProg
import Derived.ProofKit
import Derived.OpenShut
import Derived.ChangeOld
import Derived.DataReads
section
set_option linter.unusedVariables false
set_option linter.unusedSimpArgs false
namespace Go.Proofs.Ytfjfbapiheehaaa.Open
open Go Go.RowKit Go.Proofs.YtfjfbapiheehaaaW.PrintWords Go.Proofs.YtfjfbapiheehaaaW.PrintLast Go.ChangeShapes Go.WideShapes
section
variable {H : Type} {enc : TypeId × Value → H} {P : Program} {w : World} {base : Nat} {spare : Nat → Bool} {held : Bool}
def Opens (enc : TypeId × Value → H) (P : Program) (w : World) (base : Nat) (spare : Nat → Bool) (held : Bool) {α : Type} (d : Kd α) (t : TypeId) (good : α → Prop) : Prop :=
 ∀ fuel cs x, DataW.trod enc P w base spare held fuel t cs = some x → ∃ a, d.K w a cs ∧ good a
theorem part {t : TypeId} {fs : Array Field} {fuel : Nat} {cs : List Value} {x : DataW H × List MemPlace} (ht : P.underlying t = some (.struct fs)) (h : DataW.trod enc P w base spare held fuel t cs = some x)
  {α : Type} {d : Kd α} {good : α → Prop} (i : Nat) (f : Field) (hf : fs[i]? = some f) (ho : Opens enc P w base spare held d f.type good) : ∃ a, d.K w a ((cs.drop f.offset).take (P.cellsOf f.type)) ∧ good a := by
 obtain ⟨xs, n, _, _, _, hl, hall⟩ := DataW.trod_struct ht h
 have h1 := hall i f hf
 have hi : i < xs.length := by rw [hl]; exact (Array.getElem?_eq_some_iff.1 hf).1
 rw [List.getElem?_eq_getElem hi] at h1
 exact ho _ _ _ h1
end
end Go.Proofs.Ytfjfbapiheehaaa.Open
end

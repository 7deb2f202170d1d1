/- close: the arguments read as data. -/
import Derived.Test.YtbpjlpokmnmmmaaVNet
import Derived.Test.YtbpjlpokmnmmmaaOpen
set_option linter.unusedVariables false
set_option linter.unusedSimpArgs false
namespace Go.Proofs.Ytbpjlpokmnmmmaa.V
open Go Go.RowKit
section
variable {H : Type} {enc : TypeId × Value → H} {w : World} {spare : Nat → Bool} {held : Bool}
def goodE (e : NEdge) : Prop := (Lit.int .i64 e.1).wf = true ∧ (Lit.int .i64 e.2).wf = true ∧ True
theorem open_edge : OpensD enc Try.prog w 0 spare held encE 49 goodE :=
  opensD_struct (good := fun p : Int × Int × Unit => (Lit.int .i64 p.1).wf = true ∧ (Lit.int .i64 p.2.1).wf = true ∧ True) (f := fun p : Int × Int × Unit => [.val (.int .i64 p.1)] ++ ([.val (.int .i64 p.2.1)] ++ [])) (g := fun e : NEdge => (e.1, e.2, ())) (fun p => (p.1, p.2.1)) (fun _ => rfl) (ti49).und (by kernel_rfl)
    (opensF_cons (m := 1) rfl (by kernel_rfl) (opensD_int ti3.und (by kernel_rfl)) (opensF_cons (m := 1) rfl (by kernel_rfl) (opensD_int ti3.und (by kernel_rfl)) opensF_nil))
theorem open_edges : OpensD enc Try.prog w 0 spare held encL 47 (fun l => (∀ a ∈ l, goodE a) ∧ l.length * 16 ≤ reachBytes) :=
  opensD_slice TI.und' (by kernel_rfl) (by kernel_rfl) (by kernel_rfl) (by decide) open_edge
theorem open_edgess : OpensD enc Try.prog w 0 spare held (fun l : Net => [.sl 1 (l.map encL)]) 22 (fun l => (∀ x ∈ l, (∀ a ∈ x, goodE a) ∧ x.length * 16 ≤ reachBytes) ∧ l.length * 24 ≤ reachBytes) :=
  opensD_slice TI.und' (by kernel_rfl) (by kernel_rfl) (by kernel_rfl) (by decide) open_edges
def encNet (n : Net) : List D := [.sl 1 (n.map encL)]
def goodN (n : Net) : Prop := ((∀ x ∈ n, (∀ a ∈ x, goodE a) ∧ x.length * 16 ≤ reachBytes) ∧ n.length * 24 ≤ reachBytes) ∧ True
theorem open_net : OpensD enc Try.prog w 0 spare held encNet 24 goodN :=
  opensD_struct (good := fun p : Net × Unit => ((∀ x ∈ p.1, (∀ a ∈ x, goodE a) ∧ x.length * 16 ≤ reachBytes) ∧ p.1.length * 24 ≤ reachBytes) ∧ True) (f := fun p : Net × Unit => [.sl 1 (p.1.map encL)] ++ []) (g := fun n : Net => (n, ())) (fun p => p.1) (fun _ => rfl) (ti24).und (by kernel_rfl)
    (opensF_cons (m := 1) (f := fun l : Net => [.sl 1 (l.map encL)]) (f' := fun _ : Unit => []) (good := fun l : Net => (∀ x ∈ l, (∀ a ∈ x, goodE a) ∧ x.length * 16 ≤ reachBytes) ∧ l.length * 24 ≤ reachBytes) (good' := fun _ => True) rfl (by kernel_rfl) open_edgess opensF_nil)
theorem open_u16s : OpensD enc Try.prog w 0 spare held (fun l : List Int => [.sl 1 (l.map fun k => [.val (.int .u16 k)])]) 41 (fun l => (∀ a ∈ l, (Lit.int .u16 a).wf = true) ∧ l.length * 2 ≤ reachBytes) :=
  opensD_slice TI.und' (by kernel_rfl) (by kernel_rfl) (by kernel_rfl) (by decide) (opensD_int TI.und' (by kernel_rfl))
theorem open_i64 : OpensD enc Try.prog w 0 spare held (fun n : Int => [.val (.int .i64 n)]) 3 (fun n => (Lit.int .i64 n).wf = true) := opensD_int ti3.und (by kernel_rfl)
theorem open_u8 : OpensD enc Try.prog w 0 spare held (fun n : Int => [.val (.int .u8 n)]) 5 (fun n => (Lit.int .u8 n).wf = true) := opensD_int ti5.und (by kernel_rfl)
theorem open_ints : OpensD enc Try.prog w 0 spare held (fun l : List Int => [.sl 1 (l.map encZ)]) 25 (fun l => (∀ a ∈ l, (Lit.int .i64 a).wf = true) ∧ l.length * 8 ≤ reachBytes) :=
  opensD_slice TI.und' (by kernel_rfl) (by kernel_rfl) (by kernel_rfl) (by decide) open_i64
end
end Go.Proofs.Ytbpjlpokmnmmmaa.V

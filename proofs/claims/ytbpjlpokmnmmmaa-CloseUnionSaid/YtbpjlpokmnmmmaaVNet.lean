/- close: nets as data; the closure 'add' of closed. -/
import Derived.Test.YtbpjlpokmnmmmaaVB
import Derived.Test.YtbpjlpokmnmmmaaVt
set_option linter.unusedVariables false
set_option linter.unusedSimpArgs false
namespace Go.Proofs.Ytbpjlpokmnmmmaa.V
open Go Go.RowKit
abbrev NEdge := Int × Int
abbrev Net := List (List NEdge)
def encE (e : NEdge) : List D := [.val (.int .i64 e.1), .val (.int .i64 e.2)]
def encL (l : List NEdge) : List D := [.sl 2 (l.map encE)]
def netV (n : Net) : V := .agg [.sl 1 (n.map encL)]
def encZ (k : Int) : List D := [.val (.int .i64 k)]
def encN (k : Nat) : List D := [.val (.int .i64 (k : Int))]
def encB (b : Bool) : List D := [.val (.bool b)]
def addH (bs : List Bool) (buf : List Nat) (cap : Nat) : Heap := [(0, .cells 53 [.ref 2]), (1, .cells 58 [.ref 3]), (2, .arr 4 1 (bs.map encB)), (3, .chan cap (buf.map encN) false)]
set_option maxHeartbeats 1000000 in
theorem add_v {bs : List Bool} {buf : List Nat} {cap s : Nat} {b : Bool} (hs : bs[s]? = some b) (hroom : b = false → buf.length < cap) : VCalls Try.prog 33 [.val (.int .i64 (s : Int)), .ptr 0 0, .ptr 1 0] (addH bs buf cap) 4 (Leaves (.tup []) (addH (if b = true then bs else bs.set s true) (if b = true then buf else buf ++ [s]) cap) 4) := by
  refine VCalls.enterL (n := 14) Try.func33 rfl rfl (by simp) (fun cx hcx => ?_)
  unfold addH
  (repeat (first | ((with_reducible refine VOps.same ?_); (first | (refine VOps.nil ?_; try dsimp only [VThen, VBlock]) | refine VOps.vp (by rfl) (by kernel_rfl) (by rfl) (VPure.move rfl rfl) ?_ | refine VOps.vp (by rfl) (by kernel_rfl) (by rfl) (VPure.idx_arrm rfl rfl rfl rfl (by assumption)) ?_ | refine VOps.vv (by rfl) (by kernel_rfl) (by rfl) (VLoad.box1 rfl rfl rfl rfl (by rfl) (by decide)) ?_ | refine VOps.vv (by rfl) (by kernel_rfl) (by rfl) (VLoad.arr1m rfl rfl rfl (by rfl) (by assumption) (by rfl) rfl (by decide)) ?_ | refine VOps.vp (by rfl) (by kernel_rfl) (by rfl) (VPure.not rfl rfl) ?_)) | refine VCode.seq ?_ | refine VCode.region rfl ?_))
  refine VCode.cond rfl (fun hb => ?_) (fun hb => ?_)
  · obtain rfl : b = false := by simpa using hb
    have hroom := hroom rfl
    (repeat (first | ((with_reducible refine VOps.same ?_); (first | refine VOps.vp (by rfl) (by kernel_rfl) (by rfl) (VPure.move rfl rfl) ?_ | refine VOps.vp (by rfl) (by kernel_rfl) (by rfl) (VPure.idx_arrm rfl rfl rfl rfl (by assumption)) ?_ | refine VOps.vv (by rfl) (by kernel_rfl) (by rfl) (VLoad.box1 rfl rfl rfl rfl (by rfl) (by decide)) ?_)) | refine VCode.seq ?_ | refine VCode.region rfl ?_))
    refine VOps.store_arrm (u' := true) (ys :=  bs.set s true) rfl rfl (by kernel_rfl) rfl rfl rfl rfl (by rfl) (by assumption) rfl rfl (by decide) (by rfl) (by rfl) ?_
    (repeat (first | ((with_reducible refine VOps.same ?_); (first | (refine VOps.nil ?_; try dsimp only [VThen, VBlock]) | refine VOps.vp (by rfl) (by kernel_rfl) (by rfl) (VPure.move rfl rfl) ?_ | refine VOps.vv (by rfl) (by kernel_rfl) (by rfl) (VLoad.box1 rfl rfl rfl rfl (by rfl) (by decide)) ?_)) | refine VCode.region rfl ?_))
    (refine VOps.sendP (buf' := (buf ++ [s]).map encN) rfl rfl rfl rfl rfl rfl (by rfl) ?b1 ( by rw [List.map_append]; rfl) ?_; (case b1 => (first | omega | (simp only [List.length_map, List.length_append, List.length_cons, List.length_nil] at *; omega) | (simp; omega))))
    (repeat (first | ((with_reducible refine VOps.same ?_); (first | (refine VOps.nil ?_; try dsimp only [VThen, VBlock])))))
    (show Less cx _ _; refine Less.mkx (l := [0, 1, 2, 3]) (st' := ⟨[], addH (bs.set s true) (buf ++ [s]) cap, 4⟩) 4 hcx (Nat.le_of_ble_eq_true rfl) (by decide) ?ss ?hh rfl (by decide) rfl ⟨_, (.nil), rfl, rfl, rfl⟩; (case ss => repeat (first | exact SubS.nil | refine SubS.cons rfl rfl ?_ | refine SubS.cons (congrArg (fun z => some (V.val (Value.int IntKind.i64 z))) (by omega)) rfl ?_ | refine SubS.cons (congrArg (fun z => some (V.val (Value.bool z))) (by assumption)) rfl ?_)); (case hh => repeat (first | exact SubH.nil | refine SubH.cons rfl rfl rfl ?_)))
  · obtain rfl : b = true := by simpa using hb
    (repeat (first | refine VCode.skip ?_))
    (show Less cx _ _; refine Less.mkx (l := [0, 1, 2, 3]) (st' := ⟨[], addH bs buf cap, 4⟩) 4 hcx (Nat.le_of_ble_eq_true rfl) (by decide) ?ss ?hh rfl (by decide) rfl ⟨_, (.nil), rfl, rfl, rfl⟩; (case ss => repeat (first | exact SubS.nil | refine SubS.cons rfl rfl ?_ | refine SubS.cons (congrArg (fun z => some (V.val (Value.int IntKind.i64 z))) (by omega)) rfl ?_ | refine SubS.cons (congrArg (fun z => some (V.val (Value.bool z))) (by assumption)) rfl ?_)); (case hh => repeat (first | exact SubH.nil | refine SubH.cons rfl rfl rfl ?_)))
end Go.Proofs.Ytbpjlpokmnmmmaa.V

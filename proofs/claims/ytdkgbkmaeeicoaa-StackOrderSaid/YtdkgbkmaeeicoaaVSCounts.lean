/- stack: Counts. -/
import Derived.Test.YtdkgbkmaeeicoaaVSPop
set_option linter.unusedVariables false
set_option linter.unusedSimpArgs false
-- YtdkgbkmaeeicoaaVC
namespace Go.Proofs.Ytdkgbkmaeeicoaa.V
open Go Go.RowKit
def encN (k : Nat) : List D := [.val (.int .i64 (k : Int))]
def lensE (l : List Nd) : List Nat := l.map fun u => u.e.length
def lensP (l : List Nd) : List Nat := l.map fun u => u.p.length
def sumE (l : List Nd) : Nat := (lensE l).sum
def sumP (l : List Nd) : Nat := (lensP l).sum
set_option maxHeartbeats 4000000 in
theorem counts_v (l : List Nd) (hl : l.length ≤ 1000000) (hE : sumE l ≤ 1000000000000000) (hP : sumP l ≤ 1000000000000000) (hs : ∀ u ∈ l, u.e.length ≤ 1000000 ∧ u.p.length ≤ 1000000) : VCalls Try.prog 15 [.el [.sl 2 (l.map encNd)]] [] 0 (Gives (.tup [.val (.int .i64 (l.length : Int)), .val (.int .i64 (sumE l : Int)), .val (.int .i64 (sumP l : Int))])) := by
  refine VCalls.enterD (n := 64) Try.func15 rfl rfl (by simp) rfl (fun cx hcx => ?_)
  (repeat (first | ((with_reducible refine VOps.same ?_); (first | (refine VOps.nil ?_; try dsimp only [VThen, VBlock]) | refine VOps.vp (by rfl) (by kernel_rfl) (by rfl) (VPure.move rfl rfl) ?_ | refine VOps.vp (by rfl) (by kernel_rfl) (by rfl) (VPure.assign rfl rfl) ?_ | refine VOps.vp (by rfl) (by kernel_rfl) (by rfl) (VPure.nil_el rfl TI.und' rfl rfl) ?_)) | refine VCode.seq ?_ | refine VCode.region rfl ?_))
  refine VCode.cond_f rfl rfl ?_
  (repeat (first | refine VCode.seq ?_ | refine VCode.skip ?_))
  refine VCode.thenTo ⟨[(0, .el [.sl 2 (l.map encNd)]), (2, .val (.int .i64 0)), (3, .val (.int .i64 0)), (4, .val (.int .i64 0)), (5, .ref 0), (6, .ref 1)], [(0, .chan l.length [] false), (1, .chan l.length [] false)], 2⟩ ?_ ?_
  · refine VCode.drawAny [0, 1] (by kernel_rfl) rfl ?_
    refine VAny.pureI (i := 0) rfl rfl (by kernel_rfl) rfl (VPure.move rfl rfl) ?_
    refine VAny.pureI (i := 1) rfl rfl (by kernel_rfl) rfl (VPure.nilCheck_el rfl rfl) ?_
    refine VAny.pureI (i := 2) rfl rfl (by kernel_rfl) rfl (VPure.field_el rfl rfl) ?_
    refine VAny.loadI (i := 3) rfl rfl (by kernel_rfl) rfl (VLoad.el1 rfl rfl rfl (by rfl)) ?_
    refine VAny.pureI (i := 4) rfl rfl (by kernel_rfl) rfl (VPure.len_map TI.und' rfl rfl) ?_
    refine VAny.pureI (i := 6) rfl rfl (by kernel_rfl) rfl (VPure.move rfl rfl) ?_
    refine VAny.pureI (i := 7) rfl rfl (by kernel_rfl) rfl (VPure.nilCheck_el rfl rfl) ?_
    refine VAny.pureI (i := 8) rfl rfl (by kernel_rfl) rfl (VPure.field_el rfl rfl) ?_
    refine VAny.loadI (i := 9) rfl rfl (by kernel_rfl) rfl (VLoad.el1 rfl rfl rfl (by rfl)) ?_
    refine VAny.pureI (i := 10) rfl rfl (by kernel_rfl) rfl (VPure.len_map TI.und' rfl rfl) ?_
    refine VAny.movesI (is := [5, 11]) (by kernel_rfl) (by simp) rfl (allC ?_ (all1 ?_))
    · refine VMv.oo rfl rfl rfl rfl (VOp.makeChan rfl rfl (by unfold most; (first | omega | (simp only [List.length_map, List.length_append, List.length_cons, List.length_nil] at *; omega) | (simp; omega))) (by unfold most; (first | omega | (simp only [List.length_map, List.length_append, List.length_cons, List.length_nil] at *; omega) | (simp; omega)))) ?_
      refine VAny.pureI (i := 12) rfl rfl (by kernel_rfl) rfl (VPure.assign rfl rfl) ?_
      refine VAny.movesI (is := [11]) (by kernel_rfl) (by simp) rfl (all1 ?_)
      · refine VMv.oo rfl rfl rfl rfl (VOp.makeChan rfl rfl (by unfold most; (first | omega | (simp only [List.length_map, List.length_append, List.length_cons, List.length_nil] at *; omega) | (simp; omega))) (by unfold most; (first | omega | (simp only [List.length_map, List.length_append, List.length_cons, List.length_nil] at *; omega) | (simp; omega)))) ?_
        refine VAny.pureI (i := 13) rfl rfl (by kernel_rfl) rfl (VPure.assign rfl rfl) ?_
        refine VAny.done ?_
        (first | (refine Less.mk (l := [0, 1]) hcx ?ss ?hh rfl (by decide) rfl rfl; (case ss => repeat (first | exact SubS.nil | refine SubS.cons rfl rfl ?_ | refine SubS.cons (congrArg (fun z => some (V.val (Value.int IntKind.i64 z))) (by omega)) rfl ?_ | refine SubS.cons (congrArg (fun z => some (V.val (Value.bool z))) (by assumption)) rfl ?_)); (case hh => repeat (first | exact SubH.nil | refine SubH.cons rfl rfl rfl ?_))) | (refine Less.mk (l := [1, 0]) hcx ?ss ?hh rfl (by decide) rfl rfl; (case ss => repeat (first | exact SubS.nil | refine SubS.cons rfl rfl ?_ | refine SubS.cons (congrArg (fun z => some (V.val (Value.int IntKind.i64 z))) (by omega)) rfl ?_ | refine SubS.cons (congrArg (fun z => some (V.val (Value.bool z))) (by assumption)) rfl ?_)); (case hh => repeat (first | exact SubH.nil | refine SubH.cons rfl rfl rfl ?_))))
    · refine VMv.oo rfl rfl rfl rfl (VOp.makeChan rfl rfl (by unfold most; (first | omega | (simp only [List.length_map, List.length_append, List.length_cons, List.length_nil] at *; omega) | (simp; omega))) (by unfold most; (first | omega | (simp only [List.length_map, List.length_append, List.length_cons, List.length_nil] at *; omega) | (simp; omega)))) ?_
      refine VAny.movesI (is := [5]) (by kernel_rfl) (by simp) rfl (all1 ?_)
      · refine VMv.oo rfl rfl rfl rfl (VOp.makeChan rfl rfl (by unfold most; (first | omega | (simp only [List.length_map, List.length_append, List.length_cons, List.length_nil] at *; omega) | (simp; omega))) (by unfold most; (first | omega | (simp only [List.length_map, List.length_append, List.length_cons, List.length_nil] at *; omega) | (simp; omega)))) ?_
        refine VAny.pureI (i := 12) rfl rfl (by kernel_rfl) rfl (VPure.assign rfl rfl) ?_
        refine VAny.pureI (i := 13) rfl rfl (by kernel_rfl) rfl (VPure.assign rfl rfl) ?_
        refine VAny.done ?_
        (first | (refine Less.mk (l := [0, 1]) hcx ?ss ?hh rfl (by decide) rfl rfl; (case ss => repeat (first | exact SubS.nil | refine SubS.cons rfl rfl ?_ | refine SubS.cons (congrArg (fun z => some (V.val (Value.int IntKind.i64 z))) (by omega)) rfl ?_ | refine SubS.cons (congrArg (fun z => some (V.val (Value.bool z))) (by assumption)) rfl ?_)); (case hh => repeat (first | exact SubH.nil | refine SubH.cons rfl rfl rfl ?_))) | (refine Less.mk (l := [1, 0]) hcx ?ss ?hh rfl (by decide) rfl rfl; (case ss => repeat (first | exact SubS.nil | refine SubS.cons rfl rfl ?_ | refine SubS.cons (congrArg (fun z => some (V.val (Value.int IntKind.i64 z))) (by omega)) rfl ?_ | refine SubS.cons (congrArg (fun z => some (V.val (Value.bool z))) (by assumption)) rfl ?_)); (case hh => repeat (first | exact SubH.nil | refine SubH.cons rfl rfl rfl ?_))))
  (repeat (first | ((with_reducible refine VOps.same ?_); (first | (refine VOps.nil ?_; try dsimp only [VThen, VBlock]) | refine VOps.vp (by rfl) (by kernel_rfl) (by rfl) (VPure.move rfl rfl) ?_ | refine VOps.vp (by rfl) (by kernel_rfl) (by rfl) (VPure.len_map TI.und' rfl rfl) ?_ | refine VOps.vp (by rfl) (by kernel_rfl) (by rfl) (VPure.field_el rfl rfl) ?_ | refine VOps.vv (by rfl) (by kernel_rfl) (by rfl) (VLoad.el1 rfl rfl rfl (by rfl)) ?_ | refine VOps.vp (by rfl) (by kernel_rfl) (by rfl) (VPure.nilCheck_el rfl rfl) ?_)) | refine VCode.seq ?_ | refine VCode.region rfl ?_ | refine VCode.block ?_))
  refine VCode.loop (fun m st => ∃ k : Nat, k ≤ l.length ∧ m = l.length - k ∧ st = ⟨[(30, .val (.int .i64 (k : Int))), (28, .sl 2 (l.map encNd)), (29, .val (.int .i64 (l.length : Int))), (0, .el [.sl 2 (l.map encNd)]), (3, .val (.int .i64 0)), (4, .val (.int .i64 0)), (5, .ref 0), (6, .ref 1)], [(0, .chan l.length ((lensE (l.take k)).map encN) false), (1, .chan l.length ((lensP (l.take k)).map encN) false)], 2⟩) l.length ?_ ?_
  · (refine Less.mk (l := [0, 1]) hcx ?ss ?hh rfl (by decide) rfl ⟨0, by omega, by omega, rfl⟩; (case ss => repeat (first | exact SubS.nil | refine SubS.cons rfl rfl ?_ | refine SubS.cons (congrArg (fun z => some (V.val (Value.int IntKind.i64 z))) (by omega)) rfl ?_ | refine SubS.cons (congrArg (fun z => some (V.val (Value.bool z))) (by assumption)) rfl ?_)); (case hh => repeat (first | exact SubH.nil | refine SubH.cons rfl rfl rfl ?_)))
  rintro m st ⟨k, hk, rfl, rfl⟩
  cases ht : l[k]? with
  | some u =>
    have hlt : k < l.length := (List.getElem?_eq_some_iff.1 ht).1
    (repeat (first | ((with_reducible refine VOps.same ?_); (first | (refine VOps.nil ?_; try dsimp only [VThen, VBlock]) | refine VOps.vp (by rfl) (by kernel_rfl) (by rfl) (VPure.lss rfl rfl rfl) ?_)) | refine VCode.seq ?_ | refine VCode.region rfl ?_))
    refine VCode.cond_t rfl (decide_eq_true (by omega)) ?_
    have h1 := (hs u (List.mem_of_getElem? ht)).1
    have h2 := (hs u (List.mem_of_getElem? ht)).2
    have b1 : ((lensE (l.take k)).map encN).length < l.length := by unfold lensE; simp; omega
    have b2 : ((lensP (l.take k)).map encN).length < l.length := by unfold lensP; simp; omega
    have s1 : (lensE (l.take k)).map encN ++ [encN u.e.length] = (lensE (l.take (k + 1))).map encN := by rw [List.take_add_one, ht]; simp [lensE]
    have s2 : (lensP (l.take k)).map encN ++ [encN u.p.length] = (lensP (l.take (k + 1))).map encN := by rw [List.take_add_one, ht]; simp [lensP]
    (repeat (first | ((with_reducible refine VOps.same ?_); (first | (refine VOps.nil ?_; try dsimp only [VThen, VBlock]) | refine VOps.vp (by rfl) (by kernel_rfl) (by rfl) (VPure.move rfl rfl) ?_ | refine VOps.vp (by rfl) (by kernel_rfl) (by rfl) (VPure.len_map TI.und' rfl rfl) ?_ | refine VOps.vp (by rfl) (by kernel_rfl) (by rfl) (VPure.idx_map rfl rfl rfl (by assumption)) ?_ | refine VOps.vp (by rfl) (by kernel_rfl) (by rfl) (VPure.field_ptr rfl rfl rfl) ?_ | refine VOps.vv (by rfl) (by kernel_rfl) (by rfl) (VLoad.box1 rfl rfl rfl rfl (by rfl) (by decide)) ?_ | refine VOps.vv (by rfl) (by kernel_rfl) (by rfl) (VLoad.elA rfl rfl (by rfl) (Nat.le_of_ble_eq_true (by rfl))) ?_ | refine VOps.alloc rfl rfl (by kernel_rfl) rfl (by kernel_rfl) rfl ?_ | refine VOps.store rfl rfl (by kernel_rfl) rfl rfl rfl rfl rfl rfl (Nat.le_of_ble_eq_true (by rfl)) rfl ?_)) | refine VCode.seq ?_ | refine VCode.region rfl ?_ | refine VCode.block ?_ | refine VCode.skip ?_))
    (refine VOps.sendP (buf' := (lensE (l.take (k + 1))).map encN) rfl rfl rfl rfl rfl rfl (by rfl) ?b1 ( s1) ?_; (case b1 => (first | omega | (simp only [List.length_map, List.length_append, List.length_cons, List.length_nil] at *; omega) | (simp; omega))))
    (repeat (first | ((with_reducible refine VOps.same ?_); (first | (refine VOps.nil ?_; try dsimp only [VThen, VBlock]) | refine VOps.vp (by rfl) (by kernel_rfl) (by rfl) (VPure.move rfl rfl) ?_ | refine VOps.vp (by rfl) (by kernel_rfl) (by rfl) (VPure.len_map TI.und' rfl rfl) ?_ | refine VOps.vp (by rfl) (by kernel_rfl) (by rfl) (VPure.field_ptr rfl rfl rfl) ?_ | refine VOps.vv (by rfl) (by kernel_rfl) (by rfl) (VLoad.box1 rfl rfl rfl rfl (by rfl) (by decide)) ?_)) | refine VCode.region rfl ?_))
    (refine VOps.sendP (buf' := (lensP (l.take (k + 1))).map encN) rfl rfl rfl rfl rfl rfl (by rfl) ?b1 ( s2) ?_; (case b1 => (first | omega | (simp only [List.length_map, List.length_append, List.length_cons, List.length_nil] at *; omega) | (simp; omega))))
    (repeat (first | ((with_reducible refine VOps.same ?_); (first | (refine VOps.nil ?_; try dsimp only [VThen, VBlock]) | refine VOps.vp (by rfl) (by kernel_rfl) (by rfl) (VPure.move rfl rfl) ?_ | refine VOps.vp (by rfl) (by kernel_rfl) (by rfl) (VPure.addK rfl rfl rfl (by omega)) ?_)) | refine VCode.region rfl ?_))
    (refine Less.mk (l := [0, 1]) hcx ?ss ?hh rfl (by decide) rfl ⟨_, ?_, k + 1, by omega, rfl, rfl⟩; (case ss => repeat (first | exact SubS.nil | refine SubS.cons rfl rfl ?_ | refine SubS.cons (congrArg (fun z => some (V.val (Value.int IntKind.i64 z))) (by omega)) rfl ?_ | refine SubS.cons (congrArg (fun z => some (V.val (Value.bool z))) (by assumption)) rfl ?_)); (case hh => repeat (first | exact SubH.nil | refine SubH.cons rfl rfl rfl ?_)))
    omega
  | none =>
    have hge : l.length ≤ k := List.getElem?_eq_none_iff.1 ht
    obtain rfl : k = l.length := by omega
    rw [List.take_length]
    (repeat (first | ((with_reducible refine VOps.same ?_); (first | (refine VOps.nil ?_; try dsimp only [VThen, VBlock]) | refine VOps.vp (by rfl) (by kernel_rfl) (by rfl) (VPure.lss rfl rfl rfl) ?_)) | refine VCode.seq ?_ | refine VCode.region rfl ?_))
    refine VCode.cond_f rfl (decide_eq_false (by omega)) ?_
    (repeat (first | refine VCode.block ?_ | refine VCode.exit ?_))
    refine VCode.loop (fun m st => ∃ (a b : List Nat) (x y : Nat), m = a.length + b.length ∧ x + a.sum = sumE l ∧ y + b.sum = sumP l ∧ st = ⟨[(0, .el [.sl 2 (l.map encNd)]), (3, .val (.int .i64 (x : Int))), (4, .val (.int .i64 (y : Int))), (5, .ref 0), (6, .ref 1)], [(0, .chan l.length (a.map encN) false), (1, .chan l.length (b.map encN) false)], 2⟩) (l.length + l.length) ?_ ?_
    · (refine Less.mk (l := [0, 1]) hcx ?ss ?hh rfl (by decide) rfl ⟨lensE l, lensP l, 0, 0, by simp [lensE, lensP], by simp [sumE], by simp [sumP], rfl⟩; (case ss => repeat (first | exact SubS.nil | refine SubS.cons rfl rfl ?_ | refine SubS.cons (congrArg (fun z => some (V.val (Value.int IntKind.i64 z))) (by omega)) rfl ?_ | refine SubS.cons (congrArg (fun z => some (V.val (Value.bool z))) (by assumption)) rfl ?_)); (case hh => repeat (first | exact SubH.nil | refine SubH.cons rfl rfl rfl ?_)))
    rintro m st ⟨a, b, x, y, rfl, hx, hy, rfl⟩
    (repeat (first | ((with_reducible refine VOps.same ?_); (first | (refine VOps.nil ?_; try dsimp only [VThen, VBlock]) | refine VOps.vp (by rfl) (by kernel_rfl) (by rfl) (VPure.move rfl rfl) ?_)) | refine VCode.seq ?_ | refine VCode.region rfl ?_ | refine VCode.block ?_))
    refine VOps.sel2 rfl rfl rfl rfl rfl rfl rfl (fun q1 q2 => ?_) (fun d0 r q1 => ?_) (fun d0 r q1 => ?_)
    · obtain rfl : a = [] := by simpa using q1
      obtain rfl : b = [] := by simpa using q2
      (repeat (first | ((with_reducible refine VOps.same ?_); (first | (refine VOps.nil ?_; try dsimp only [VThen, VBlock]) | refine VOps.vp (by rfl) (by kernel_rfl) (by rfl) (VPure.extract rfl rfl rfl) ?_ | refine VOps.vp (by rfl) (by kernel_rfl) (by rfl) (VPure.eqi rfl rfl rfl) ?_)) | refine VCode.block ?_))
      refine VCode.cond_f rfl rfl ?_
      refine VCode.cond_f rfl rfl ?_
      (repeat (first | ((with_reducible refine VOps.same ?_); (first | (refine VOps.nil ?_; try dsimp only [VThen, VBlock]) | refine VOps.vp (by rfl) (by kernel_rfl) (by rfl) (VPure.move rfl rfl) ?_ | refine VOps.vp (by rfl) (by kernel_rfl) (by rfl) (VPure.assign rfl rfl) ?_ | refine VOps.vp (by rfl) (by kernel_rfl) (by rfl) (VPure.len_map TI.und' rfl rfl) ?_ | refine VOps.vp (by rfl) (by kernel_rfl) (by rfl) (VPure.field_el rfl rfl) ?_ | refine VOps.vv (by rfl) (by kernel_rfl) (by rfl) (VLoad.el1 rfl rfl rfl (by rfl)) ?_ | refine VOps.vp (by rfl) (by kernel_rfl) (by rfl) (VPure.nilCheck_el rfl rfl) ?_)) | refine VCode.seq ?_ | refine VCode.region rfl ?_))
      refine VCode.retD rfl rfl (.tmp rfl (.tmp rfl (.tmp rfl .nil))) ?_
      simp only [List.sum_nil, Nat.add_zero] at hx hy
      rw [hx, hy]; rfl
    · cases a with
      | nil => cases q1
      | cons z a =>
        obtain ⟨rfl, rfl⟩ := List.cons.inj q1
        simp only [List.sum_cons] at hx
        (repeat (first | ((with_reducible refine VOps.same ?_); (first | (refine VOps.nil ?_; try dsimp only [VThen, VBlock]) | refine VOps.vp (by rfl) (by kernel_rfl) (by rfl) (VPure.extract rfl rfl rfl) ?_ | refine VOps.vp (by rfl) (by kernel_rfl) (by rfl) (VPure.eqi rfl rfl rfl) ?_)) | refine VCode.block ?_))
        refine VCode.cond_t rfl rfl ?_
        (repeat (first | ((with_reducible refine VOps.same ?_); (first | (refine VOps.nil ?_; try dsimp only [VThen, VBlock]) | refine VOps.vp (by rfl) (by kernel_rfl) (by rfl) (VPure.move rfl rfl) ?_ | refine VOps.vp (by rfl) (by kernel_rfl) (by rfl) (VPure.assign rfl rfl) ?_ | refine VOps.vp (by rfl) (by kernel_rfl) (by rfl) (VPure.extract rfl rfl rfl) ?_ | refine VOps.vp (by rfl) (by kernel_rfl) (by rfl) (VPure.addK rfl rfl rfl (by omega)) ?_)) | refine VCode.seq ?_ | refine VCode.region rfl ?_))
        (refine Less.mk (l := [0, 1]) hcx ?ss ?hh rfl (by decide) rfl ⟨_, ?_, a, b, x + z, y, rfl, by omega, hy, rfl⟩; (case ss => repeat (first | exact SubS.nil | refine SubS.cons rfl rfl ?_ | refine SubS.cons (congrArg (fun z => some (V.val (Value.int IntKind.i64 z))) (by omega)) rfl ?_ | refine SubS.cons (congrArg (fun z => some (V.val (Value.bool z))) (by assumption)) rfl ?_)); (case hh => repeat (first | exact SubH.nil | refine SubH.cons rfl rfl rfl ?_)))
        simp
    · cases b with
      | nil => cases q1
      | cons z b =>
        obtain ⟨rfl, rfl⟩ := List.cons.inj q1
        simp only [List.sum_cons] at hy
        (repeat (first | ((with_reducible refine VOps.same ?_); (first | (refine VOps.nil ?_; try dsimp only [VThen, VBlock]) | refine VOps.vp (by rfl) (by kernel_rfl) (by rfl) (VPure.extract rfl rfl rfl) ?_ | refine VOps.vp (by rfl) (by kernel_rfl) (by rfl) (VPure.eqi rfl rfl rfl) ?_)) | refine VCode.block ?_))
        refine VCode.cond_f rfl rfl ?_
        refine VCode.cond_t rfl rfl ?_
        (repeat (first | ((with_reducible refine VOps.same ?_); (first | (refine VOps.nil ?_; try dsimp only [VThen, VBlock]) | refine VOps.vp (by rfl) (by kernel_rfl) (by rfl) (VPure.move rfl rfl) ?_ | refine VOps.vp (by rfl) (by kernel_rfl) (by rfl) (VPure.assign rfl rfl) ?_ | refine VOps.vp (by rfl) (by kernel_rfl) (by rfl) (VPure.extract rfl rfl rfl) ?_ | refine VOps.vp (by rfl) (by kernel_rfl) (by rfl) (VPure.addK rfl rfl rfl (by omega)) ?_)) | refine VCode.seq ?_ | refine VCode.region rfl ?_))
        (refine Less.mk (l := [0, 1]) hcx ?ss ?hh rfl (by decide) rfl ⟨_, ?_, a, b, x, y + z, rfl, hx, by omega, rfl⟩; (case ss => repeat (first | exact SubS.nil | refine SubS.cons rfl rfl ?_ | refine SubS.cons (congrArg (fun z => some (V.val (Value.int IntKind.i64 z))) (by omega)) rfl ?_ | refine SubS.cons (congrArg (fun z => some (V.val (Value.bool z))) (by assumption)) rfl ?_)); (case hh => repeat (first | exact SubH.nil | refine SubH.cons rfl rfl rfl ?_)))
        simp
end Go.Proofs.Ytdkgbkmaeeicoaa.V

/- stack: StackPlays. -/
import Derived.Test.YtdkgbkmaeeicoaaVSSame
set_option linter.unusedVariables false
set_option linter.unusedSimpArgs false
-- YtdkgbkmaeeicoaaVC
namespace Go.Proofs.Ytdkgbkmaeeicoaa.V
open Go Go.RowKit
theorem node_both {S : List Nd} {c : Nat} (h : Few S c) (hc : c + 1 ≤ 100000) (a b : Int) : ∃ (T : List Nd) (k : Nat) (m : Bool), VCalls Try.prog 9 [.ptr 0 0, .val (.int .i64 a), .val (.int .i64 b)] (stH S) 3 (Leaves (.tup [.val (.int .i64 (k : Int)), .val (.bool m)]) (stH' T) 4) ∧
    VCalls Try.prog 10 [.ptr 0 0, .val (.int .i64 a), .val (.int .i64 b)] (reH S) 2 (Leaves (.tup [.val (.int .i64 (k : Int)), .val (.bool m)]) (reH' T) 3) ∧ Few T (c + 1) :=
  ⟨_, _, _, node_f (few_mono h (by omega)) a b, rnode_v S a b (by have := h.1; omega), few_node h a b⟩
theorem edge_both {S : List Nd} {c : Nat} (h : Few S c) (hc : c + 1 ≤ 100000) (n st ab : Int) : ∃ (T : List Nd) (m : Bool), VCalls Try.prog 11 [.ptr 0 0, .val (.int .i64 n), .val (.int .i64 st), .val (.int .i64 ab)] (stH S) 3 (Leaves (.val (.bool m)) (stH' T) 4) ∧
    VCalls Try.prog 12 [.ptr 0 0, .val (.int .i64 n), .val (.int .i64 st), .val (.int .i64 ab)] (reH S) 2 (Leaves (.val (.bool m)) (reH' T) 3) ∧ Few T (c + 1) :=
  ⟨_, _, edge_f (few_mono h (by omega)) n st ab, redge_v S n st ab (fun u hu => by have := few_all h u hu; omega), few_edge h n st ab⟩
theorem pop_both {S : List Nd} {c : Nat} (h : Few S c) (hc : c + 1 ≤ 100000) (n q : Int) : ∃ (T : List Nd) (m : Bool), VCalls Try.prog 13 [.ptr 0 0, .val (.int .i64 n), .val (.int .i64 q)] (stH S) 3 (Leaves (.val (.bool m)) (stH' T) 4) ∧
    VCalls Try.prog 14 [.ptr 0 0, .val (.int .i64 n), .val (.int .i64 q)] (reH S) 2 (Leaves (.val (.bool m)) (reH' T) 3) ∧ Few T (c + 1) :=
  ⟨_, _, pop_f (few_mono h (by omega)) n q, rpop_v S n q (fun u hu => by have := few_all h u hu; omega), few_pop h n q⟩
theorem samer_v (l : List Nd) (n : Int) (hF : Few l 100000) : VCalls Try.prog 17 [.el [.sl 2 ((l.map rowN).map fun r => r.map N.toD)], .el [.sl 4 ((l.map rowR).map fun r => r.map N.toD)], .val (.int .i64 n)] [] 0 (Gives (.val (.bool true))) := by
  rw [dn_rows, dn_rowsR]; exact same_v l n hF
theorem rcountsr_v (l : List Nd) (hF : Few l 100000) : VCalls Try.prog 16 [.el [.sl 4 ((l.map rowR).map fun r => r.map N.toD)]] [] 0 (Gives (.tup [.val (.int .i64 (sumE l : Int)), .val (.int .i64 (sumP l : Int))])) := by
  rw [dn_rowsR]; exact rcounts_v l (by have := hF.1; omega) (by have := hF.2.1; omega) (by have := hF.2.2; omega)
set_option maxHeartbeats 8000000 in
theorem plays_v (l : List Stp) (hl : l.length ≤ 140737488355328) : VCalls Try.prog 3 [.sl 4 (l.map encS)] [] 0 (Gives (.val (.bool true))) := by
  refine VCalls.enterD (n := 157) Try.func3 rfl rfl (by simp) rfl (fun cx hcx => ?_)
  (repeat (first | ((with_reducible refine VOps.same ?_); (first | (refine VOps.nil ?_; try dsimp only [VThen, VBlock]) | refine VOps.vp (by rfl) (by kernel_rfl) (by rfl) (VPure.assign rfl rfl) ?_)) | refine VCode.seq ?_ | refine VCode.region rfl ?_))
  (refine VOps.callL (ch := []) [] rfl Try.func7 rfl (by kernel_rfl) rfl rfl rfl rfl ?hh (by decide) rfl rfl rfl (new_v) rfl (by rfl) rfl ?_; (case hh => repeat (first | exact SubH.nil | refine SubH.cons rfl rfl rfl ?_)))
  (repeat (first | ((with_reducible refine VOps.same ?_); (first | (refine VOps.nil ?_; try dsimp only [VThen, VBlock]) | refine VOps.vp (by rfl) (by kernel_rfl) (by rfl) (VPure.move rfl rfl) ?_ | refine VOps.vp (by rfl) (by kernel_rfl) (by rfl) (VPure.assign rfl rfl) ?_ | refine VOps.vp (by rfl) (by kernel_rfl) (by rfl) (VPure.len_map TI.und' rfl rfl) ?_ | refine VOps.vp (by rfl) (by kernel_rfl) (by rfl) (VPure.gtr rfl rfl rfl) ?_ | refine VOps.vp (by rfl) (by kernel_rfl) (by rfl) (VPure.pick_f rfl rfl rfl) ?_ | refine VOps.vp (by rfl) (by kernel_rfl) (by rfl) (VPure.buildC rfl (by kernel_rfl) rfl (by rfl)) ?_ | refine VOps.box rfl rfl (by kernel_rfl) rfl rfl rfl rfl ?_ | refine VOps.vp (by rfl) (by kernel_rfl) (by rfl) (VPure.nil_ptr rfl TI.und' rfl rfl rfl) ?_)) | refine VCode.seq ?_ | refine VCode.region rfl ?_))
  refine VCode.cond rfl (fun hlen => ?_) (fun hlen => ?_)
  · (repeat (first | ((with_reducible refine VOps.same ?_); (first | refine VOps.vp (by rfl) (by kernel_rfl) (by rfl) (VPure.move rfl rfl) ?_ | refine VOps.vp (by rfl) (by kernel_rfl) (by rfl) (VPure.nnil_ptr rfl TI.und' rfl rfl rfl) ?_)) | refine VCode.seq ?_ | refine VCode.region rfl ?_))
    refine VOps.pure rfl Try.func8 rfl (by kernel_rfl) rfl rfl rfl rfl rfl rfl rfl (wakes_v) ?_
    (repeat (first | ((with_reducible refine VOps.same ?_); (first | (refine VOps.nil ?_; try dsimp only [VThen, VBlock]) | refine VOps.vp (by rfl) (by kernel_rfl) (by rfl) (VPure.assign rfl rfl) ?_ | refine VOps.vp (by rfl) (by kernel_rfl) (by rfl) (VPure.pick_t rfl rfl rfl) ?_))))
    refine VCode.retD rfl rfl (.tmp rfl .nil) ?_
    rfl
  have hlen : l.length ≤ 150 := by have := of_decide_eq_false hlen; omega
  (repeat (first | ((with_reducible refine VOps.same ?_); (first | (refine VOps.nil ?_; try dsimp only [VThen, VBlock]) | refine VOps.vp (by rfl) (by kernel_rfl) (by rfl) (VPure.assign rfl rfl) ?_)) | refine VCode.seq ?_ | refine VCode.region rfl ?_ | refine VCode.block ?_ | refine VCode.skip ?_))
  refine VCode.nilCell (id := 3) 0 64 4 rfl rfl rfl rfl ?_
  refine VCode.turn (id := 4) (rows := []) (fun _ => []) rfl (fun _ h => by cases h) rfl ?_
  refine VCode.loop (fun m st => ∃ (i : Nat) (S : List Nd), i ≤ l.length ∧ m = l.length - i ∧ Few S i ∧ st = ⟨[(5, .val (.int .i64 (i : Int))), (0, .sl 4 (l.map encS)), (3, .ptr 0 0), (4, .ptr 3 0)], [(0, .cells 57 [.ref 1, .ref 2]), (1, .nest 61 2 (S.map rowN) none), (2, .map (knownE S)), (3, .cells 28 [.ref 4]), (4, .nest 64 4 (S.map rowR) none)], 5⟩) l.length ?_ ?_
  · (refine Less.mk (l := [0, 1, 2, 3, 5]) hcx ?ss ?hh rfl (by decide) rfl ⟨0, [], by omega, by omega, ⟨by simp, by simp [sumE, lensE], by simp [sumP, lensP]⟩, rfl⟩; (case ss => repeat (first | exact SubS.nil | refine SubS.cons rfl rfl ?_ | refine SubS.cons (congrArg (fun z => some (V.val (Value.int IntKind.i64 z))) (by omega)) rfl ?_ | refine SubS.cons (congrArg (fun z => some (V.val (Value.bool z))) (by assumption)) rfl ?_)); (case hh => repeat (first | exact SubH.nil | refine SubH.cons rfl rfl rfl ?_)))
  rintro m st ⟨i, S, hi, rfl, hF, rfl⟩
  cases ht : l[i]? with
  | some x =>
    have hlt : i < l.length := (List.getElem?_eq_some_iff.1 ht).1
    (repeat (first | ((with_reducible refine VOps.same ?_); (first | (refine VOps.nil ?_; try dsimp only [VThen, VBlock]) | refine VOps.vp (by rfl) (by kernel_rfl) (by rfl) (VPure.move rfl rfl) ?_ | refine VOps.vp (by rfl) (by kernel_rfl) (by rfl) (VPure.len_map TI.und' rfl rfl) ?_ | refine VOps.vp (by rfl) (by kernel_rfl) (by rfl) (VPure.lss rfl rfl rfl) ?_)) | refine VCode.seq ?_ | refine VCode.region rfl ?_))
    refine VCode.cond_t rfl (decide_eq_true (by omega)) ?_
    (repeat (first | ((with_reducible refine VOps.same ?_); (first | (refine VOps.nil ?_; try dsimp only [VThen, VBlock]) | refine VOps.vp (by rfl) (by kernel_rfl) (by rfl) (VPure.move rfl rfl) ?_ | refine VOps.vp (by rfl) (by kernel_rfl) (by rfl) (VPure.assign rfl rfl) ?_ | refine VOps.vp (by rfl) (by kernel_rfl) (by rfl) (VPure.idx_map rfl rfl rfl (by assumption)) ?_ | refine VOps.vp (by rfl) (by kernel_rfl) (by rfl) (VPure.field_ptr rfl rfl rfl) ?_ | refine VOps.vv (by rfl) (by kernel_rfl) (by rfl) (VLoad.box1 rfl rfl rfl rfl (by rfl) (by decide)) ?_ | refine VOps.vv (by rfl) (by kernel_rfl) (by rfl) (VLoad.elA rfl rfl (by rfl) (Nat.le_of_ble_eq_true (by rfl))) ?_ | refine VOps.vp (by rfl) (by kernel_rfl) (by rfl) (VPure.eqi rfl rfl rfl) ?_ | refine VOps.alloc rfl rfl (by kernel_rfl) rfl (by kernel_rfl) rfl ?_ | refine VOps.store rfl rfl (by kernel_rfl) rfl rfl rfl rfl rfl rfl (Nat.le_of_ble_eq_true (by rfl)) rfl ?_)) | refine VCode.seq ?_ | refine VCode.region rfl ?_ | refine VCode.block ?_ | refine VCode.skip ?_))
    refine VCode.cond rfl (fun hk0 => ?_) (fun hk0 => ?_)
    · obtain ⟨T, k, b, c1, c2, hT⟩ := node_both hF (by omega) x.2.1 x.2.2.1
      (repeat (first | ((with_reducible refine VOps.same ?_); (first | refine VOps.vp (by rfl) (by kernel_rfl) (by rfl) (VPure.move rfl rfl) ?_ | refine VOps.vp (by rfl) (by kernel_rfl) (by rfl) (VPure.field_ptr rfl rfl rfl) ?_ | refine VOps.vv (by rfl) (by kernel_rfl) (by rfl) (VLoad.box1 rfl rfl rfl rfl (by rfl) (by decide)) ?_)) | refine VCode.seq ?_ | refine VCode.region rfl ?_))
      (refine VOps.callL (ch := [(0, .cells 57 [.ref 1, .ref 2]), (1, .nest 61 2 (S.map rowN) none), (2, .map (knownE S))]) [0, 1, 2] rfl Try.func9 rfl (by kernel_rfl) rfl rfl rfl rfl ?hh (by decide) rfl rfl rfl (c1) rfl (by rfl) rfl ?_; (case hh => repeat (first | exact SubH.nil | refine SubH.cons rfl rfl rfl ?_)))
      (repeat (first | ((with_reducible refine VOps.same ?_); (first | (refine VOps.nil ?_; try dsimp only [VThen, VBlock]) | refine VOps.vp (by rfl) (by kernel_rfl) (by rfl) (VPure.move rfl rfl) ?_ | refine VOps.vp (by rfl) (by kernel_rfl) (by rfl) (VPure.assign rfl rfl) ?_ | refine VOps.vp (by rfl) (by kernel_rfl) (by rfl) (VPure.extract rfl rfl rfl) ?_ | refine VOps.vp (by rfl) (by kernel_rfl) (by rfl) (VPure.field_ptr rfl rfl rfl) ?_ | refine VOps.vv (by rfl) (by kernel_rfl) (by rfl) (VLoad.box1 rfl rfl rfl rfl (by rfl) (by decide)) ?_)) | refine VCode.seq ?_ | refine VCode.region rfl ?_))
      (refine VOps.callL (ch := [(0, .cells 28 [.ref 1]), (1, .nest 64 4 (S.map rowR) none)]) [3, 4] rfl Try.func10 rfl (by kernel_rfl) rfl rfl rfl rfl ?hh (by decide) rfl rfl rfl (c2) rfl (by rfl) rfl ?_; (case hh => repeat (first | exact SubH.nil | refine SubH.cons rfl rfl rfl ?_)))
      (repeat (first | ((with_reducible refine VOps.same ?_); (first | (refine VOps.nil ?_; try dsimp only [VThen, VBlock]) | refine VOps.vp (by rfl) (by kernel_rfl) (by rfl) (VPure.move rfl rfl) ?_ | refine VOps.vp (by rfl) (by kernel_rfl) (by rfl) (VPure.assign rfl rfl) ?_ | refine VOps.vp (by rfl) (by kernel_rfl) (by rfl) (VPure.extract rfl rfl rfl) ?_ | refine VOps.vp (by rfl) (by kernel_rfl) (by rfl) (VPure.nei rfl rfl rfl) ?_)) | refine VCode.seq ?_ | refine VCode.region rfl ?_))
      refine VOps.says (d := 67) (v := .val (.bool false)) rfl (by simp) ?_
      (repeat (first | ((with_reducible refine VOps.same ?_); (first | (refine VOps.nil ?_; try dsimp only [VThen, VBlock]) | refine VOps.vp (by rfl) (by kernel_rfl) (by rfl) (VPure.move rfl rfl) ?_ | refine VOps.vp (by rfl) (by kernel_rfl) (by rfl) (VPure.neb TI.und' rfl rfl rfl) ?_ | refine VOps.vp (by rfl) (by kernel_rfl) (by rfl) (VPure.pick_f rfl rfl rfl) ?_))))
      refine VCode.cond_f rfl (by simp) ?_
      have hT' : Few T 100000 := few_mono hT (by omega)
      (repeat (first | ((with_reducible refine VOps.same ?_); (first | refine VOps.vp (by rfl) (by kernel_rfl) (by rfl) (VPure.move rfl rfl) ?_)) | refine VCode.seq ?_ | refine VCode.region rfl ?_ | refine VCode.skip ?_))
      refine VOps.pure rfl Try.func15 rfl (by kernel_rfl) rfl rfl rfl rfl rfl rfl rfl (counts_f hT') ?_
      (repeat (first | ((with_reducible refine VOps.same ?_); (first | (refine VOps.nil ?_; try dsimp only [VThen, VBlock]) | refine VOps.vp (by rfl) (by kernel_rfl) (by rfl) (VPure.move rfl rfl) ?_ | refine VOps.vp (by rfl) (by kernel_rfl) (by rfl) (VPure.assign rfl rfl) ?_ | refine VOps.vp (by rfl) (by kernel_rfl) (by rfl) (VPure.extract rfl rfl rfl) ?_)) | refine VCode.seq ?_ | refine VCode.region rfl ?_))
      refine VOps.pure rfl Try.func16 rfl (by kernel_rfl) rfl rfl rfl rfl rfl rfl rfl (rcountsr_v T hT') ?_
      (repeat (first | ((with_reducible refine VOps.same ?_); (first | (refine VOps.nil ?_; try dsimp only [VThen, VBlock]) | refine VOps.vp (by rfl) (by kernel_rfl) (by rfl) (VPure.move rfl rfl) ?_ | refine VOps.vp (by rfl) (by kernel_rfl) (by rfl) (VPure.assign rfl rfl) ?_ | refine VOps.vp (by rfl) (by kernel_rfl) (by rfl) (VPure.extract rfl rfl rfl) ?_ | refine VOps.vp (by rfl) (by kernel_rfl) (by rfl) (VPure.field_ptr rfl rfl rfl) ?_ | refine VOps.vv (by rfl) (by kernel_rfl) (by rfl) (VLoad.box1 rfl rfl rfl rfl (by rfl) (by decide)) ?_ | refine VOps.vp (by rfl) (by kernel_rfl) (by rfl) (VPure.nei rfl rfl rfl) ?_ | refine VOps.vp (by rfl) (by kernel_rfl) (by rfl) (VPure.nilCheck_ptr rfl rfl rfl) ?_ | refine VOps.vp (by rfl) (by kernel_rfl) (by rfl) (VPure.len_nestm TI.und' rfl rfl rfl) ?_)) | refine VCode.seq ?_ | refine VCode.region rfl ?_))
      refine VOps.says (d := 124) (v := .val (.bool false)) rfl (by simp) ?_
      (repeat (first | ((with_reducible refine VOps.same ?_); (first | refine VOps.vp (by rfl) (by kernel_rfl) (by rfl) (VPure.move rfl rfl) ?_ | refine VOps.vp (by rfl) (by kernel_rfl) (by rfl) (VPure.nei rfl rfl rfl) ?_ | refine VOps.vp (by rfl) (by kernel_rfl) (by rfl) (VPure.pick_f rfl rfl rfl) ?_))))
      refine VOps.says (d := 129) (v := .val (.bool false)) rfl (by simp) ?_
      (repeat (first | ((with_reducible refine VOps.same ?_); (first | refine VOps.vp (by rfl) (by kernel_rfl) (by rfl) (VPure.move rfl rfl) ?_ | refine VOps.vp (by rfl) (by kernel_rfl) (by rfl) (VPure.nei rfl rfl rfl) ?_ | refine VOps.vp (by rfl) (by kernel_rfl) (by rfl) (VPure.pick_f rfl rfl rfl) ?_))))
      refine VOps.says (d := 134) (v := .val (.bool false)) rfl (by simp) ?_
      (repeat (first | ((with_reducible refine VOps.same ?_); (first | refine VOps.vp (by rfl) (by kernel_rfl) (by rfl) (VPure.move rfl rfl) ?_ | refine VOps.vp (by rfl) (by kernel_rfl) (by rfl) (VPure.field_ptr rfl rfl rfl) ?_ | refine VOps.vv (by rfl) (by kernel_rfl) (by rfl) (VLoad.box1 rfl rfl rfl rfl (by rfl) (by decide)) ?_))))
      refine VOps.pure rfl Try.func17 rfl (by kernel_rfl) rfl rfl rfl rfl rfl rfl rfl (samer_v T x.2.1 hT') ?_
      (repeat (first | ((with_reducible refine VOps.same ?_); (first | (refine VOps.nil ?_; try dsimp only [VThen, VBlock]) | refine VOps.vp (by rfl) (by kernel_rfl) (by rfl) (VPure.not rfl rfl) ?_ | refine VOps.vp (by rfl) (by kernel_rfl) (by rfl) (VPure.pick_f rfl rfl rfl) ?_))))
      refine VCode.cond_f rfl rfl ?_
      (repeat (first | ((with_reducible refine VOps.same ?_); (first | (refine VOps.nil ?_; try dsimp only [VThen, VBlock]) | refine VOps.vp (by rfl) (by kernel_rfl) (by rfl) (VPure.move rfl rfl) ?_ | refine VOps.vp (by rfl) (by kernel_rfl) (by rfl) (VPure.assign rfl rfl) ?_ | refine VOps.vp (by rfl) (by kernel_rfl) (by rfl) (VPure.addK rfl rfl rfl (by omega)) ?_)) | refine VCode.region rfl ?_ | refine VCode.skip ?_))
      (refine Less.mk (l := [0, 6, 2, 3, 7]) hcx ?ss ?hh rfl (by decide) rfl ⟨_, ?_, i + 1, T, by omega, rfl, hT, rfl⟩; (case ss => repeat (first | exact SubS.nil | refine SubS.cons rfl rfl ?_ | refine SubS.cons (congrArg (fun z => some (V.val (Value.int IntKind.i64 z))) (by omega)) rfl ?_ | refine SubS.cons (congrArg (fun z => some (V.val (Value.bool z))) (by assumption)) rfl ?_)); (case hh => repeat (first | exact SubH.nil | refine SubH.cons rfl rfl rfl ?_)))
      omega
    (repeat (first | ((with_reducible refine VOps.same ?_); (first | (refine VOps.nil ?_; try dsimp only [VThen, VBlock]) | refine VOps.vp (by rfl) (by kernel_rfl) (by rfl) (VPure.assign rfl rfl) ?_ | refine VOps.vp (by rfl) (by kernel_rfl) (by rfl) (VPure.eqi rfl rfl rfl) ?_)) | refine VCode.seq ?_ | refine VCode.region rfl ?_))
    refine VCode.cond rfl (fun hk1 => ?_) (fun hk1 => ?_)
    · obtain ⟨T, b, c1, c2, hT⟩ := edge_both hF (by omega) x.2.1 x.2.2.1 x.2.2.2
      (repeat (first | refine VCode.seq ?_))
      refine VCode.thenTo ⟨[(90, .val (.bool (!(b == b)))), (5, .val (.int .i64 (i : Int))), (0, .sl 4 (l.map encS)), (3, .ptr 0 0), (4, .ptr 3 0), (6, .ptr 5 0)], [(0, .cells 57 [.ref 1, .ref 2]), (1, .nest 61 2 (T.map rowN) none), (2, .map (knownE T)), (3, .cells 28 [.ref 4]), (4, .nest 64 4 (T.map rowR) none), (5, .cells 31 [.val (.int .i64 x.1), .val (.int .i64 x.2.1), .val (.int .i64 x.2.2.1), .val (.int .i64 x.2.2.2)])], 6⟩ ?_ ?_
      · refine VCode.drawAny [0, 1, 2, 3, 4] (by kernel_rfl) rfl ?_
        refine VAny.pureI (i := 0) rfl rfl (by kernel_rfl) rfl (VPure.move rfl rfl) ?_
        refine VAny.pureI (i := 1) rfl rfl (by kernel_rfl) rfl (VPure.field_ptr rfl rfl rfl) ?_
        refine VAny.loadI (i := 2) rfl rfl (by kernel_rfl) rfl (VLoad.box1 rfl rfl rfl rfl (by rfl) (by decide)) ?_
        refine VAny.pureI (i := 3) rfl rfl (by kernel_rfl) rfl (VPure.field_ptr rfl rfl rfl) ?_
        refine VAny.loadI (i := 4) rfl rfl (by kernel_rfl) rfl (VLoad.box1 rfl rfl rfl rfl (by rfl) (by decide)) ?_
        refine VAny.pureI (i := 5) rfl rfl (by kernel_rfl) rfl (VPure.field_ptr rfl rfl rfl) ?_
        refine VAny.loadI (i := 6) rfl rfl (by kernel_rfl) rfl (VLoad.box1 rfl rfl rfl rfl (by rfl) (by decide)) ?_
        refine VAny.pureI (i := 8) rfl rfl (by kernel_rfl) rfl (VPure.move rfl rfl) ?_
        refine VAny.pureI (i := 9) rfl rfl (by kernel_rfl) rfl (VPure.field_ptr rfl rfl rfl) ?_
        refine VAny.loadI (i := 10) rfl rfl (by kernel_rfl) rfl (VLoad.box1 rfl rfl rfl rfl (by rfl) (by decide)) ?_
        refine VAny.pureI (i := 11) rfl rfl (by kernel_rfl) rfl (VPure.field_ptr rfl rfl rfl) ?_
        refine VAny.loadI (i := 12) rfl rfl (by kernel_rfl) rfl (VLoad.box1 rfl rfl rfl rfl (by rfl) (by decide)) ?_
        refine VAny.pureI (i := 13) rfl rfl (by kernel_rfl) rfl (VPure.field_ptr rfl rfl rfl) ?_
        refine VAny.loadI (i := 14) rfl rfl (by kernel_rfl) rfl (VLoad.box1 rfl rfl rfl rfl (by rfl) (by decide)) ?_
        refine VAny.movesI (is := [7]) (by kernel_rfl) (by simp) rfl (all1 ?_)
        · (refine VMv.callL (ch := [(0, .cells 57 [.ref 1, .ref 2]), (1, .nest 61 2 (S.map rowN) none), (2, .map (knownE S))]) [0, 1, 2] rfl rfl Try.func11 rfl rfl rfl rfl rfl rfl ?hh (by decide) rfl rfl rfl (c1) rfl (by rfl) rfl ?_; (case hh => repeat (first | exact SubH.nil | refine SubH.cons rfl rfl rfl ?_)))
          refine VAny.movesI (is := [15]) (by kernel_rfl) (by simp) rfl (all1 ?_)
          · (refine VMv.callL (ch := [(0, .cells 28 [.ref 1]), (1, .nest 64 4 (S.map rowR) none)]) [3, 4] rfl rfl Try.func12 rfl rfl rfl rfl rfl rfl ?hh (by decide) rfl rfl rfl (c2) rfl (by rfl) rfl ?_; (case hh => repeat (first | exact SubH.nil | refine SubH.cons rfl rfl rfl ?_)))
            refine VAny.pureI (i := 16) rfl rfl (by kernel_rfl) rfl (VPure.neb TI.und' rfl rfl rfl) ?_
            refine VAny.done ?_
            (refine Less.mk (l := [0, 6, 2, 3, 7, 5]) hcx ?ss ?hh rfl (by decide) rfl rfl; (case ss => repeat (first | exact SubS.nil | refine SubS.cons rfl rfl ?_ | refine SubS.cons (congrArg (fun z => some (V.val (Value.int IntKind.i64 z))) (by omega)) rfl ?_ | refine SubS.cons (congrArg (fun z => some (V.val (Value.bool z))) (by assumption)) rfl ?_)); (case hh => repeat (first | exact SubH.nil | refine SubH.cons rfl rfl rfl ?_)))
      refine VCode.cond_f rfl (by simp) ?_
      have hT' : Few T 100000 := few_mono hT (by omega)
      (repeat (first | ((with_reducible refine VOps.same ?_); (first | refine VOps.vp (by rfl) (by kernel_rfl) (by rfl) (VPure.move rfl rfl) ?_)) | refine VCode.seq ?_ | refine VCode.region rfl ?_ | refine VCode.skip ?_))
      refine VOps.pure rfl Try.func15 rfl (by kernel_rfl) rfl rfl rfl rfl rfl rfl rfl (counts_f hT') ?_
      (repeat (first | ((with_reducible refine VOps.same ?_); (first | (refine VOps.nil ?_; try dsimp only [VThen, VBlock]) | refine VOps.vp (by rfl) (by kernel_rfl) (by rfl) (VPure.move rfl rfl) ?_ | refine VOps.vp (by rfl) (by kernel_rfl) (by rfl) (VPure.assign rfl rfl) ?_ | refine VOps.vp (by rfl) (by kernel_rfl) (by rfl) (VPure.extract rfl rfl rfl) ?_)) | refine VCode.seq ?_ | refine VCode.region rfl ?_))
      refine VOps.pure rfl Try.func16 rfl (by kernel_rfl) rfl rfl rfl rfl rfl rfl rfl (rcountsr_v T hT') ?_
      (repeat (first | ((with_reducible refine VOps.same ?_); (first | (refine VOps.nil ?_; try dsimp only [VThen, VBlock]) | refine VOps.vp (by rfl) (by kernel_rfl) (by rfl) (VPure.move rfl rfl) ?_ | refine VOps.vp (by rfl) (by kernel_rfl) (by rfl) (VPure.assign rfl rfl) ?_ | refine VOps.vp (by rfl) (by kernel_rfl) (by rfl) (VPure.extract rfl rfl rfl) ?_ | refine VOps.vp (by rfl) (by kernel_rfl) (by rfl) (VPure.field_ptr rfl rfl rfl) ?_ | refine VOps.vv (by rfl) (by kernel_rfl) (by rfl) (VLoad.box1 rfl rfl rfl rfl (by rfl) (by decide)) ?_ | refine VOps.vp (by rfl) (by kernel_rfl) (by rfl) (VPure.nei rfl rfl rfl) ?_ | refine VOps.vp (by rfl) (by kernel_rfl) (by rfl) (VPure.nilCheck_ptr rfl rfl rfl) ?_ | refine VOps.vp (by rfl) (by kernel_rfl) (by rfl) (VPure.len_nestm TI.und' rfl rfl rfl) ?_)) | refine VCode.seq ?_ | refine VCode.region rfl ?_))
      refine VOps.says (d := 124) (v := .val (.bool false)) rfl (by simp) ?_
      (repeat (first | ((with_reducible refine VOps.same ?_); (first | refine VOps.vp (by rfl) (by kernel_rfl) (by rfl) (VPure.move rfl rfl) ?_ | refine VOps.vp (by rfl) (by kernel_rfl) (by rfl) (VPure.nei rfl rfl rfl) ?_ | refine VOps.vp (by rfl) (by kernel_rfl) (by rfl) (VPure.pick_f rfl rfl rfl) ?_))))
      refine VOps.says (d := 129) (v := .val (.bool false)) rfl (by simp) ?_
      (repeat (first | ((with_reducible refine VOps.same ?_); (first | refine VOps.vp (by rfl) (by kernel_rfl) (by rfl) (VPure.move rfl rfl) ?_ | refine VOps.vp (by rfl) (by kernel_rfl) (by rfl) (VPure.nei rfl rfl rfl) ?_ | refine VOps.vp (by rfl) (by kernel_rfl) (by rfl) (VPure.pick_f rfl rfl rfl) ?_))))
      refine VOps.says (d := 134) (v := .val (.bool false)) rfl (by simp) ?_
      (repeat (first | ((with_reducible refine VOps.same ?_); (first | refine VOps.vp (by rfl) (by kernel_rfl) (by rfl) (VPure.move rfl rfl) ?_ | refine VOps.vp (by rfl) (by kernel_rfl) (by rfl) (VPure.field_ptr rfl rfl rfl) ?_ | refine VOps.vv (by rfl) (by kernel_rfl) (by rfl) (VLoad.box1 rfl rfl rfl rfl (by rfl) (by decide)) ?_))))
      refine VOps.pure rfl Try.func17 rfl (by kernel_rfl) rfl rfl rfl rfl rfl rfl rfl (samer_v T x.2.1 hT') ?_
      (repeat (first | ((with_reducible refine VOps.same ?_); (first | (refine VOps.nil ?_; try dsimp only [VThen, VBlock]) | refine VOps.vp (by rfl) (by kernel_rfl) (by rfl) (VPure.not rfl rfl) ?_ | refine VOps.vp (by rfl) (by kernel_rfl) (by rfl) (VPure.pick_f rfl rfl rfl) ?_))))
      refine VCode.cond_f rfl rfl ?_
      (repeat (first | ((with_reducible refine VOps.same ?_); (first | (refine VOps.nil ?_; try dsimp only [VThen, VBlock]) | refine VOps.vp (by rfl) (by kernel_rfl) (by rfl) (VPure.move rfl rfl) ?_ | refine VOps.vp (by rfl) (by kernel_rfl) (by rfl) (VPure.assign rfl rfl) ?_ | refine VOps.vp (by rfl) (by kernel_rfl) (by rfl) (VPure.addK rfl rfl rfl (by omega)) ?_)) | refine VCode.region rfl ?_ | refine VCode.skip ?_))
      (refine Less.mk (l := [0, 1, 2, 3, 4]) hcx ?ss ?hh rfl (by decide) rfl ⟨_, ?_, i + 1, T, by omega, rfl, hT, rfl⟩; (case ss => repeat (first | exact SubS.nil | refine SubS.cons rfl rfl ?_ | refine SubS.cons (congrArg (fun z => some (V.val (Value.int IntKind.i64 z))) (by omega)) rfl ?_ | refine SubS.cons (congrArg (fun z => some (V.val (Value.bool z))) (by assumption)) rfl ?_)); (case hh => repeat (first | exact SubH.nil | refine SubH.cons rfl rfl rfl ?_)))
      omega
    (repeat (first | ((with_reducible refine VOps.same ?_); (first | (refine VOps.nil ?_; try dsimp only [VThen, VBlock]) | refine VOps.vp (by rfl) (by kernel_rfl) (by rfl) (VPure.assign rfl rfl) ?_ | refine VOps.vp (by rfl) (by kernel_rfl) (by rfl) (VPure.eqi rfl rfl rfl) ?_)) | refine VCode.seq ?_ | refine VCode.region rfl ?_))
    refine VCode.cond rfl (fun hk2 => ?_) (fun hk2 => ?_)
    · obtain ⟨T, b, c1, c2, hT⟩ := pop_both hF (by omega) x.2.1 x.2.2.1
      (repeat (first | refine VCode.seq ?_))
      refine VCode.thenTo ⟨[(105, .val (.bool (!(b == b)))), (5, .val (.int .i64 (i : Int))), (0, .sl 4 (l.map encS)), (3, .ptr 0 0), (4, .ptr 3 0), (6, .ptr 5 0)], [(0, .cells 57 [.ref 1, .ref 2]), (1, .nest 61 2 (T.map rowN) none), (2, .map (knownE T)), (3, .cells 28 [.ref 4]), (4, .nest 64 4 (T.map rowR) none), (5, .cells 31 [.val (.int .i64 x.1), .val (.int .i64 x.2.1), .val (.int .i64 x.2.2.1), .val (.int .i64 x.2.2.2)])], 6⟩ ?_ ?_
      · refine VCode.drawAny [0, 1, 2, 3, 4] (by kernel_rfl) rfl ?_
        refine VAny.pureI (i := 0) rfl rfl (by kernel_rfl) rfl (VPure.move rfl rfl) ?_
        refine VAny.pureI (i := 1) rfl rfl (by kernel_rfl) rfl (VPure.field_ptr rfl rfl rfl) ?_
        refine VAny.loadI (i := 2) rfl rfl (by kernel_rfl) rfl (VLoad.box1 rfl rfl rfl rfl (by rfl) (by decide)) ?_
        refine VAny.pureI (i := 3) rfl rfl (by kernel_rfl) rfl (VPure.field_ptr rfl rfl rfl) ?_
        refine VAny.loadI (i := 4) rfl rfl (by kernel_rfl) rfl (VLoad.box1 rfl rfl rfl rfl (by rfl) (by decide)) ?_
        refine VAny.pureI (i := 6) rfl rfl (by kernel_rfl) rfl (VPure.move rfl rfl) ?_
        refine VAny.pureI (i := 7) rfl rfl (by kernel_rfl) rfl (VPure.field_ptr rfl rfl rfl) ?_
        refine VAny.loadI (i := 8) rfl rfl (by kernel_rfl) rfl (VLoad.box1 rfl rfl rfl rfl (by rfl) (by decide)) ?_
        refine VAny.pureI (i := 9) rfl rfl (by kernel_rfl) rfl (VPure.field_ptr rfl rfl rfl) ?_
        refine VAny.loadI (i := 10) rfl rfl (by kernel_rfl) rfl (VLoad.box1 rfl rfl rfl rfl (by rfl) (by decide)) ?_
        refine VAny.movesI (is := [5]) (by kernel_rfl) (by simp) rfl (all1 ?_)
        · (refine VMv.callL (ch := [(0, .cells 57 [.ref 1, .ref 2]), (1, .nest 61 2 (S.map rowN) none), (2, .map (knownE S))]) [0, 1, 2] rfl rfl Try.func13 rfl rfl rfl rfl rfl rfl ?hh (by decide) rfl rfl rfl (c1) rfl (by rfl) rfl ?_; (case hh => repeat (first | exact SubH.nil | refine SubH.cons rfl rfl rfl ?_)))
          refine VAny.movesI (is := [11]) (by kernel_rfl) (by simp) rfl (all1 ?_)
          · (refine VMv.callL (ch := [(0, .cells 28 [.ref 1]), (1, .nest 64 4 (S.map rowR) none)]) [3, 4] rfl rfl Try.func14 rfl rfl rfl rfl rfl rfl ?hh (by decide) rfl rfl rfl (c2) rfl (by rfl) rfl ?_; (case hh => repeat (first | exact SubH.nil | refine SubH.cons rfl rfl rfl ?_)))
            refine VAny.pureI (i := 12) rfl rfl (by kernel_rfl) rfl (VPure.neb TI.und' rfl rfl rfl) ?_
            refine VAny.done ?_
            (refine Less.mk (l := [0, 6, 2, 3, 7, 5]) hcx ?ss ?hh rfl (by decide) rfl rfl; (case ss => repeat (first | exact SubS.nil | refine SubS.cons rfl rfl ?_ | refine SubS.cons (congrArg (fun z => some (V.val (Value.int IntKind.i64 z))) (by omega)) rfl ?_ | refine SubS.cons (congrArg (fun z => some (V.val (Value.bool z))) (by assumption)) rfl ?_)); (case hh => repeat (first | exact SubH.nil | refine SubH.cons rfl rfl rfl ?_)))
      refine VCode.cond_f rfl (by simp) ?_
      have hT' : Few T 100000 := few_mono hT (by omega)
      (repeat (first | ((with_reducible refine VOps.same ?_); (first | refine VOps.vp (by rfl) (by kernel_rfl) (by rfl) (VPure.move rfl rfl) ?_)) | refine VCode.seq ?_ | refine VCode.region rfl ?_ | refine VCode.skip ?_))
      refine VOps.pure rfl Try.func15 rfl (by kernel_rfl) rfl rfl rfl rfl rfl rfl rfl (counts_f hT') ?_
      (repeat (first | ((with_reducible refine VOps.same ?_); (first | (refine VOps.nil ?_; try dsimp only [VThen, VBlock]) | refine VOps.vp (by rfl) (by kernel_rfl) (by rfl) (VPure.move rfl rfl) ?_ | refine VOps.vp (by rfl) (by kernel_rfl) (by rfl) (VPure.assign rfl rfl) ?_ | refine VOps.vp (by rfl) (by kernel_rfl) (by rfl) (VPure.extract rfl rfl rfl) ?_)) | refine VCode.seq ?_ | refine VCode.region rfl ?_))
      refine VOps.pure rfl Try.func16 rfl (by kernel_rfl) rfl rfl rfl rfl rfl rfl rfl (rcountsr_v T hT') ?_
      (repeat (first | ((with_reducible refine VOps.same ?_); (first | (refine VOps.nil ?_; try dsimp only [VThen, VBlock]) | refine VOps.vp (by rfl) (by kernel_rfl) (by rfl) (VPure.move rfl rfl) ?_ | refine VOps.vp (by rfl) (by kernel_rfl) (by rfl) (VPure.assign rfl rfl) ?_ | refine VOps.vp (by rfl) (by kernel_rfl) (by rfl) (VPure.extract rfl rfl rfl) ?_ | refine VOps.vp (by rfl) (by kernel_rfl) (by rfl) (VPure.field_ptr rfl rfl rfl) ?_ | refine VOps.vv (by rfl) (by kernel_rfl) (by rfl) (VLoad.box1 rfl rfl rfl rfl (by rfl) (by decide)) ?_ | refine VOps.vp (by rfl) (by kernel_rfl) (by rfl) (VPure.nei rfl rfl rfl) ?_ | refine VOps.vp (by rfl) (by kernel_rfl) (by rfl) (VPure.nilCheck_ptr rfl rfl rfl) ?_ | refine VOps.vp (by rfl) (by kernel_rfl) (by rfl) (VPure.len_nestm TI.und' rfl rfl rfl) ?_)) | refine VCode.seq ?_ | refine VCode.region rfl ?_))
      refine VOps.says (d := 124) (v := .val (.bool false)) rfl (by simp) ?_
      (repeat (first | ((with_reducible refine VOps.same ?_); (first | refine VOps.vp (by rfl) (by kernel_rfl) (by rfl) (VPure.move rfl rfl) ?_ | refine VOps.vp (by rfl) (by kernel_rfl) (by rfl) (VPure.nei rfl rfl rfl) ?_ | refine VOps.vp (by rfl) (by kernel_rfl) (by rfl) (VPure.pick_f rfl rfl rfl) ?_))))
      refine VOps.says (d := 129) (v := .val (.bool false)) rfl (by simp) ?_
      (repeat (first | ((with_reducible refine VOps.same ?_); (first | refine VOps.vp (by rfl) (by kernel_rfl) (by rfl) (VPure.move rfl rfl) ?_ | refine VOps.vp (by rfl) (by kernel_rfl) (by rfl) (VPure.nei rfl rfl rfl) ?_ | refine VOps.vp (by rfl) (by kernel_rfl) (by rfl) (VPure.pick_f rfl rfl rfl) ?_))))
      refine VOps.says (d := 134) (v := .val (.bool false)) rfl (by simp) ?_
      (repeat (first | ((with_reducible refine VOps.same ?_); (first | refine VOps.vp (by rfl) (by kernel_rfl) (by rfl) (VPure.move rfl rfl) ?_ | refine VOps.vp (by rfl) (by kernel_rfl) (by rfl) (VPure.field_ptr rfl rfl rfl) ?_ | refine VOps.vv (by rfl) (by kernel_rfl) (by rfl) (VLoad.box1 rfl rfl rfl rfl (by rfl) (by decide)) ?_))))
      refine VOps.pure rfl Try.func17 rfl (by kernel_rfl) rfl rfl rfl rfl rfl rfl rfl (samer_v T x.2.1 hT') ?_
      (repeat (first | ((with_reducible refine VOps.same ?_); (first | (refine VOps.nil ?_; try dsimp only [VThen, VBlock]) | refine VOps.vp (by rfl) (by kernel_rfl) (by rfl) (VPure.not rfl rfl) ?_ | refine VOps.vp (by rfl) (by kernel_rfl) (by rfl) (VPure.pick_f rfl rfl rfl) ?_))))
      refine VCode.cond_f rfl rfl ?_
      (repeat (first | ((with_reducible refine VOps.same ?_); (first | (refine VOps.nil ?_; try dsimp only [VThen, VBlock]) | refine VOps.vp (by rfl) (by kernel_rfl) (by rfl) (VPure.move rfl rfl) ?_ | refine VOps.vp (by rfl) (by kernel_rfl) (by rfl) (VPure.assign rfl rfl) ?_ | refine VOps.vp (by rfl) (by kernel_rfl) (by rfl) (VPure.addK rfl rfl rfl (by omega)) ?_)) | refine VCode.region rfl ?_ | refine VCode.skip ?_))
      (refine Less.mk (l := [0, 1, 2, 3, 4]) hcx ?ss ?hh rfl (by decide) rfl ⟨_, ?_, i + 1, T, by omega, rfl, hT, rfl⟩; (case ss => repeat (first | exact SubS.nil | refine SubS.cons rfl rfl ?_ | refine SubS.cons (congrArg (fun z => some (V.val (Value.int IntKind.i64 z))) (by omega)) rfl ?_ | refine SubS.cons (congrArg (fun z => some (V.val (Value.bool z))) (by assumption)) rfl ?_)); (case hh => repeat (first | exact SubH.nil | refine SubH.cons rfl rfl rfl ?_)))
      omega
    obtain ⟨T, rfl, hT⟩ : ∃ T, T = S ∧ Few T (i + 1) := ⟨S, rfl, few_mono hF (by omega)⟩
    have hT' : Few T 100000 := few_mono hT (by omega)
    (repeat (first | ((with_reducible refine VOps.same ?_); (first | refine VOps.vp (by rfl) (by kernel_rfl) (by rfl) (VPure.move rfl rfl) ?_)) | refine VCode.seq ?_ | refine VCode.region rfl ?_ | refine VCode.skip ?_))
    refine VOps.pure rfl Try.func15 rfl (by kernel_rfl) rfl rfl rfl rfl rfl rfl rfl (counts_f hT') ?_
    (repeat (first | ((with_reducible refine VOps.same ?_); (first | (refine VOps.nil ?_; try dsimp only [VThen, VBlock]) | refine VOps.vp (by rfl) (by kernel_rfl) (by rfl) (VPure.move rfl rfl) ?_ | refine VOps.vp (by rfl) (by kernel_rfl) (by rfl) (VPure.assign rfl rfl) ?_ | refine VOps.vp (by rfl) (by kernel_rfl) (by rfl) (VPure.extract rfl rfl rfl) ?_)) | refine VCode.seq ?_ | refine VCode.region rfl ?_))
    refine VOps.pure rfl Try.func16 rfl (by kernel_rfl) rfl rfl rfl rfl rfl rfl rfl (rcountsr_v T hT') ?_
    (repeat (first | ((with_reducible refine VOps.same ?_); (first | (refine VOps.nil ?_; try dsimp only [VThen, VBlock]) | refine VOps.vp (by rfl) (by kernel_rfl) (by rfl) (VPure.move rfl rfl) ?_ | refine VOps.vp (by rfl) (by kernel_rfl) (by rfl) (VPure.assign rfl rfl) ?_ | refine VOps.vp (by rfl) (by kernel_rfl) (by rfl) (VPure.extract rfl rfl rfl) ?_ | refine VOps.vp (by rfl) (by kernel_rfl) (by rfl) (VPure.field_ptr rfl rfl rfl) ?_ | refine VOps.vv (by rfl) (by kernel_rfl) (by rfl) (VLoad.box1 rfl rfl rfl rfl (by rfl) (by decide)) ?_ | refine VOps.vp (by rfl) (by kernel_rfl) (by rfl) (VPure.nei rfl rfl rfl) ?_ | refine VOps.vp (by rfl) (by kernel_rfl) (by rfl) (VPure.nilCheck_ptr rfl rfl rfl) ?_ | refine VOps.vp (by rfl) (by kernel_rfl) (by rfl) (VPure.len_nestm TI.und' rfl rfl rfl) ?_)) | refine VCode.seq ?_ | refine VCode.region rfl ?_))
    refine VOps.says (d := 124) (v := .val (.bool false)) rfl (by simp) ?_
    (repeat (first | ((with_reducible refine VOps.same ?_); (first | refine VOps.vp (by rfl) (by kernel_rfl) (by rfl) (VPure.move rfl rfl) ?_ | refine VOps.vp (by rfl) (by kernel_rfl) (by rfl) (VPure.nei rfl rfl rfl) ?_ | refine VOps.vp (by rfl) (by kernel_rfl) (by rfl) (VPure.pick_f rfl rfl rfl) ?_))))
    refine VOps.says (d := 129) (v := .val (.bool false)) rfl (by simp) ?_
    (repeat (first | ((with_reducible refine VOps.same ?_); (first | refine VOps.vp (by rfl) (by kernel_rfl) (by rfl) (VPure.move rfl rfl) ?_ | refine VOps.vp (by rfl) (by kernel_rfl) (by rfl) (VPure.nei rfl rfl rfl) ?_ | refine VOps.vp (by rfl) (by kernel_rfl) (by rfl) (VPure.pick_f rfl rfl rfl) ?_))))
    refine VOps.says (d := 134) (v := .val (.bool false)) rfl (by simp) ?_
    (repeat (first | ((with_reducible refine VOps.same ?_); (first | refine VOps.vp (by rfl) (by kernel_rfl) (by rfl) (VPure.move rfl rfl) ?_ | refine VOps.vp (by rfl) (by kernel_rfl) (by rfl) (VPure.field_ptr rfl rfl rfl) ?_ | refine VOps.vv (by rfl) (by kernel_rfl) (by rfl) (VLoad.box1 rfl rfl rfl rfl (by rfl) (by decide)) ?_))))
    refine VOps.pure rfl Try.func17 rfl (by kernel_rfl) rfl rfl rfl rfl rfl rfl rfl (samer_v T x.2.1 hT') ?_
    (repeat (first | ((with_reducible refine VOps.same ?_); (first | (refine VOps.nil ?_; try dsimp only [VThen, VBlock]) | refine VOps.vp (by rfl) (by kernel_rfl) (by rfl) (VPure.not rfl rfl) ?_ | refine VOps.vp (by rfl) (by kernel_rfl) (by rfl) (VPure.pick_f rfl rfl rfl) ?_))))
    refine VCode.cond_f rfl rfl ?_
    (repeat (first | ((with_reducible refine VOps.same ?_); (first | (refine VOps.nil ?_; try dsimp only [VThen, VBlock]) | refine VOps.vp (by rfl) (by kernel_rfl) (by rfl) (VPure.move rfl rfl) ?_ | refine VOps.vp (by rfl) (by kernel_rfl) (by rfl) (VPure.assign rfl rfl) ?_ | refine VOps.vp (by rfl) (by kernel_rfl) (by rfl) (VPure.addK rfl rfl rfl (by omega)) ?_)) | refine VCode.region rfl ?_ | refine VCode.skip ?_))
    (refine Less.mk (l := [0, 1, 2, 3, 4]) hcx ?ss ?hh rfl (by decide) rfl ⟨_, ?_, i + 1, T, by omega, rfl, hT, rfl⟩; (case ss => repeat (first | exact SubS.nil | refine SubS.cons rfl rfl ?_ | refine SubS.cons (congrArg (fun z => some (V.val (Value.int IntKind.i64 z))) (by omega)) rfl ?_ | refine SubS.cons (congrArg (fun z => some (V.val (Value.bool z))) (by assumption)) rfl ?_)); (case hh => repeat (first | exact SubH.nil | refine SubH.cons rfl rfl rfl ?_)))
    omega
  | none =>
    have hge : l.length ≤ i := List.getElem?_eq_none_iff.1 ht
    have hF' : Few S 100000 := few_mono hF (by omega)
    have hS1 := hF.1
    (repeat (first | ((with_reducible refine VOps.same ?_); (first | (refine VOps.nil ?_; try dsimp only [VThen, VBlock]) | refine VOps.vp (by rfl) (by kernel_rfl) (by rfl) (VPure.move rfl rfl) ?_ | refine VOps.vp (by rfl) (by kernel_rfl) (by rfl) (VPure.len_map TI.und' rfl rfl) ?_ | refine VOps.vp (by rfl) (by kernel_rfl) (by rfl) (VPure.lss rfl rfl rfl) ?_)) | refine VCode.seq ?_ | refine VCode.region rfl ?_))
    refine VCode.cond_f rfl (decide_eq_false (by omega)) ?_
    (repeat (first | ((with_reducible refine VOps.same ?_); (first | (refine VOps.nil ?_; try dsimp only [VThen, VBlock]) | refine VOps.vp (by rfl) (by kernel_rfl) (by rfl) (VPure.assign rfl rfl) ?_)) | refine VCode.seq ?_ | refine VCode.region rfl ?_ | refine VCode.block ?_ | refine VCode.exit ?_))
    refine VCode.loop (fun m st => ∃ (j : Nat), j ≤ S.length + 2 ∧ m = S.length + 2 - j ∧ st = ⟨[(16, .val (.int .i64 ((j : Int) - 1))), (3, .ptr 0 0), (4, .ptr 3 0)], [(0, .cells 57 [.ref 1, .ref 2]), (1, .nest 61 2 (S.map rowN) none), (2, .map (knownE S)), (3, .cells 28 [.ref 4]), (4, .nest 64 4 (S.map rowR) none)], 5⟩) (S.length + 2) ?_ ?_
    · (refine Less.mk (l := [0, 1, 2, 3, 4]) hcx ?ss ?hh rfl (by decide) rfl ⟨0, by omega, by omega, rfl⟩; (case ss => repeat (first | exact SubS.nil | refine SubS.cons rfl rfl ?_ | refine SubS.cons (congrArg (fun z => some (V.val (Value.int IntKind.i64 z))) (by omega)) rfl ?_ | refine SubS.cons (congrArg (fun z => some (V.val (Value.bool z))) (by assumption)) rfl ?_)); (case hh => repeat (first | exact SubH.nil | refine SubH.cons rfl rfl rfl ?_)))
    rintro m st ⟨j, hj, rfl, rfl⟩
    (repeat (first | ((with_reducible refine VOps.same ?_); (first | (refine VOps.nil ?_; try dsimp only [VThen, VBlock]) | refine VOps.vp (by rfl) (by kernel_rfl) (by rfl) (VPure.move rfl rfl) ?_ | refine VOps.vp (by rfl) (by kernel_rfl) (by rfl) (VPure.field_ptr rfl rfl rfl) ?_ | refine VOps.vv (by rfl) (by kernel_rfl) (by rfl) (VLoad.box1 rfl rfl rfl rfl (by rfl) (by decide)) ?_ | refine VOps.vp (by rfl) (by kernel_rfl) (by rfl) (VPure.leq rfl rfl rfl) ?_ | refine VOps.vp (by rfl) (by kernel_rfl) (by rfl) (VPure.nilCheck_ptr rfl rfl rfl) ?_ | refine VOps.vp (by rfl) (by kernel_rfl) (by rfl) (VPure.len_nestm TI.und' rfl rfl rfl) ?_)) | refine VCode.seq ?_ | refine VCode.region rfl ?_))
    by_cases hjl : j < S.length + 2
    · refine VCode.cond_t rfl (decide_eq_true (by omega)) ?_
      (repeat (first | ((with_reducible refine VOps.same ?_); (first | refine VOps.vp (by rfl) (by kernel_rfl) (by rfl) (VPure.move rfl rfl) ?_)) | refine VCode.seq ?_ | refine VCode.region rfl ?_ | refine VCode.block ?_ | refine VCode.skip ?_))
      refine VOps.pure rfl Try.func17 rfl (by kernel_rfl) rfl rfl rfl rfl rfl rfl rfl (samer_v S ((j : Int) - 1) hF') ?_
      (repeat (first | ((with_reducible refine VOps.same ?_); (first | (refine VOps.nil ?_; try dsimp only [VThen, VBlock]) | refine VOps.vp (by rfl) (by kernel_rfl) (by rfl) (VPure.not rfl rfl) ?_))))
      refine VCode.cond_f rfl rfl ?_
      (repeat (first | ((with_reducible refine VOps.same ?_); (first | (refine VOps.nil ?_; try dsimp only [VThen, VBlock]) | refine VOps.vp (by rfl) (by kernel_rfl) (by rfl) (VPure.move rfl rfl) ?_ | refine VOps.vp (by rfl) (by kernel_rfl) (by rfl) (VPure.assign rfl rfl) ?_ | refine VOps.vp (by rfl) (by kernel_rfl) (by rfl) (VPure.addK rfl rfl rfl (by omega)) ?_)) | refine VCode.region rfl ?_ | refine VCode.skip ?_))
      (refine Less.mk (l := [0, 1, 2, 3, 4]) hcx ?ss ?hh rfl (by decide) rfl ⟨_, ?_, j + 1, by omega, rfl, rfl⟩; (case ss => repeat (first | exact SubS.nil | refine SubS.cons rfl rfl ?_ | refine SubS.cons (congrArg (fun z => some (V.val (Value.int IntKind.i64 z))) (by omega)) rfl ?_ | refine SubS.cons (congrArg (fun z => some (V.val (Value.bool z))) (by assumption)) rfl ?_)); (case hh => repeat (first | exact SubH.nil | refine SubH.cons rfl rfl rfl ?_)))
      omega
    · refine VCode.cond_f rfl (decide_eq_false (by omega)) ?_
      (repeat (first | refine VCode.seq ?_ | refine VCode.region rfl ?_ | refine VCode.exit ?_))
      refine VOps.pure rfl Try.func8 rfl (by kernel_rfl) rfl rfl rfl rfl rfl rfl rfl (wakes_v) ?_
      (repeat (first | ((with_reducible refine VOps.same ?_); (first | (refine VOps.nil ?_; try dsimp only [VThen, VBlock]) | refine VOps.vp (by rfl) (by kernel_rfl) (by rfl) (VPure.assign rfl rfl) ?_))))
      refine VCode.retD rfl rfl (.tmp rfl .nil) ?_
      rfl
-- LAW StackPlays plays_law open_steps
theorem plays_law (l : List Stp) (g : (∀ a ∈ l, goodS a) ∧ l.length * 32 ≤ reachBytes) : VCalls Try.prog 3 [.sl 4 (l.map encS)] [] 0 (Gives (.val (.bool true))) := plays_v l (by
  have h : reachBytes < 140737488355328 := reachBytes_lt
  have := g.2; omega)
end Go.Proofs.Ytdkgbkmaeeicoaa.V

/- stack: Ints, wakes. -/
import Derived.Test.YtdkgbkmaeeicoaaVSCounts
set_option linter.unusedVariables false
set_option linter.unusedSimpArgs false
-- YtdkgbkmaeeicoaaVC
namespace Go.Proofs.Ytdkgbkmaeeicoaa.V
open Go Go.RowKit
theorem take_same {α : Type} {a b : List α} {k : Nat} {x y : α} (h : a.take k = b.take k) (hx : a[k]? = some x) (hy : b[k]? = some y) (e : x = y) : a.take (k + 1) = b.take (k + 1) := by
  rw [List.take_add_one, List.take_add_one, h, hx, hy, e]
set_option maxHeartbeats 1000000 in
theorem ints_v (a b : List Int) (ha : a.length ≤ 140737488355328) : VCalls Try.prog 22 [.sl 1 (a.map encZ), .sl 1 (b.map encZ)] [] 0 (Gives (.val (.bool (decide (a = b))))) := by
  refine VCalls.enter (n := 26) Try.func22 rfl rfl (by simp) (fun cx hcx => ?_)
  (repeat (first | ((with_reducible refine VOps.same ?_); (first | (refine VOps.nil ?_; try dsimp only [VThen, VBlock]) | refine VOps.vp (by rfl) (by kernel_rfl) (by rfl) (VPure.move rfl rfl) ?_ | refine VOps.vp (by rfl) (by kernel_rfl) (by rfl) (VPure.assign rfl rfl) ?_ | refine VOps.vp (by rfl) (by kernel_rfl) (by rfl) (VPure.len_map TI.und' rfl rfl) ?_ | refine VOps.vp (by rfl) (by kernel_rfl) (by rfl) (VPure.nei rfl rfl rfl) ?_)) | refine VCode.seq ?_ | refine VCode.region rfl ?_))
  refine VCode.cond rfl (fun hc => ?_) (fun hc => ?_)
  · (repeat (first | ((with_reducible refine VOps.same ?_); (first | (refine VOps.nil ?_; try dsimp only [VThen, VBlock]) | refine VOps.vp (by rfl) (by kernel_rfl) (by rfl) (VPure.assign rfl rfl) ?_)) | refine VCode.seq ?_ | refine VCode.region rfl ?_))
    refine VCode.give hcx rfl rfl rfl rfl rfl ?_
    simp only [Bool.not_eq_true', decide_eq_false_iff_not] at hc
    have : decide (a = b) = false := decide_eq_false (fun h => hc (by rw [h]))
    rw [this]
  · simp only [Bool.not_eq_false', decide_eq_true_eq] at hc
    have hlen : a.length = b.length := by omega
    (repeat (first | ((with_reducible refine VOps.same ?_); (first | (refine VOps.nil ?_; try dsimp only [VThen, VBlock]) | refine VOps.vp (by rfl) (by kernel_rfl) (by rfl) (VPure.assign rfl rfl) ?_)) | refine VCode.seq ?_ | refine VCode.region rfl ?_ | refine VCode.block ?_ | refine VCode.skip ?_))
    refine VCode.loop (fun m st => ∃ k : Nat, k ≤ a.length ∧ m = a.length - k ∧ a.take k = b.take k ∧ st = ⟨[(5, .val (.int .i64 (k : Int))), (0, .sl 1 (a.map encZ)), (1, .sl 1 (b.map encZ))], [], 0⟩) a.length ?_ ?_
    · (refine Less.mk (l := []) hcx ?ss ?hh rfl (by decide) rfl ⟨0, by omega, by omega, by simp, rfl⟩; (case ss => repeat (first | exact SubS.nil | refine SubS.cons rfl rfl ?_ | refine SubS.cons (congrArg (fun z => some (V.val (Value.int IntKind.i64 z))) (by omega)) rfl ?_ | refine SubS.cons (congrArg (fun z => some (V.val (Value.bool z))) (by assumption)) rfl ?_)); (case hh => repeat (first | exact SubH.nil | refine SubH.cons rfl rfl rfl ?_)))
    rintro m st ⟨k, hk, rfl, hs, rfl⟩
    cases ht : a[k]? with
    | some t =>
      have hlt : k < a.length := (List.getElem?_eq_some_iff.1 ht).1
      obtain ⟨u, hu⟩ : ∃ u, b[k]? = some u := ⟨_, List.getElem?_eq_getElem (by omega)⟩
      (repeat (first | ((with_reducible refine VOps.same ?_); (first | (refine VOps.nil ?_; try dsimp only [VThen, VBlock]) | refine VOps.vp (by rfl) (by kernel_rfl) (by rfl) (VPure.move rfl rfl) ?_ | refine VOps.vp (by rfl) (by kernel_rfl) (by rfl) (VPure.len_map TI.und' rfl rfl) ?_ | refine VOps.vp (by rfl) (by kernel_rfl) (by rfl) (VPure.lss rfl rfl rfl) ?_)) | refine VCode.seq ?_ | refine VCode.region rfl ?_))
      refine VCode.cond_t rfl (decide_eq_true (by omega)) ?_
      (repeat (first | ((with_reducible refine VOps.same ?_); (first | (refine VOps.nil ?_; try dsimp only [VThen, VBlock]) | refine VOps.vp (by rfl) (by kernel_rfl) (by rfl) (VPure.move rfl rfl) ?_ | refine VOps.vp (by rfl) (by kernel_rfl) (by rfl) (VPure.idx_map rfl rfl rfl (by assumption)) ?_ | refine VOps.vv (by rfl) (by kernel_rfl) (by rfl) (VLoad.el1 rfl rfl rfl (by rfl)) ?_ | refine VOps.vp (by rfl) (by kernel_rfl) (by rfl) (VPure.nei rfl rfl rfl) ?_)) | refine VCode.seq ?_ | refine VCode.draw [] rfl ?_ | refine VCode.block ?_ | refine VCode.skip ?_))
      refine VCode.cond rfl (fun hb => ?_) (fun hb => ?_)
      · (repeat (first | ((with_reducible refine VOps.same ?_); (first | (refine VOps.nil ?_; try dsimp only [VThen, VBlock]) | refine VOps.vp (by rfl) (by kernel_rfl) (by rfl) (VPure.assign rfl rfl) ?_)) | refine VCode.seq ?_ | refine VCode.region rfl ?_))
        refine VCode.give hcx rfl rfl rfl rfl rfl ?_
        have : decide (a = b) = false := by
          have hne : t ≠ u := by simpa using hb
          refine decide_eq_false (fun e => hne ?_)
          subst e; rw [ht] at hu; exact Option.some.inj hu
        rw [this]
      · have e : t = u := by simpa using hb
        (repeat (first | ((with_reducible refine VOps.same ?_); (first | (refine VOps.nil ?_; try dsimp only [VThen, VBlock]) | refine VOps.vp (by rfl) (by kernel_rfl) (by rfl) (VPure.move rfl rfl) ?_ | refine VOps.vp (by rfl) (by kernel_rfl) (by rfl) (VPure.assign rfl rfl) ?_ | refine VOps.vp (by rfl) (by kernel_rfl) (by rfl) (VPure.addK rfl rfl rfl (by omega)) ?_)) | refine VCode.region rfl ?_ | refine VCode.skip ?_))
        (refine Less.mk (l := []) hcx ?ss ?hh rfl (by decide) rfl ⟨_, ?_, k + 1, by omega, rfl, take_same hs ht hu e, rfl⟩; (case ss => repeat (first | exact SubS.nil | refine SubS.cons rfl rfl ?_ | refine SubS.cons (congrArg (fun z => some (V.val (Value.int IntKind.i64 z))) (by omega)) rfl ?_ | refine SubS.cons (congrArg (fun z => some (V.val (Value.bool z))) (by assumption)) rfl ?_)); (case hh => repeat (first | exact SubH.nil | refine SubH.cons rfl rfl rfl ?_)))
        omega
    | none =>
      have hge : a.length ≤ k := List.getElem?_eq_none_iff.1 ht
      (repeat (first | ((with_reducible refine VOps.same ?_); (first | (refine VOps.nil ?_; try dsimp only [VThen, VBlock]) | refine VOps.vp (by rfl) (by kernel_rfl) (by rfl) (VPure.move rfl rfl) ?_ | refine VOps.vp (by rfl) (by kernel_rfl) (by rfl) (VPure.len_map TI.und' rfl rfl) ?_ | refine VOps.vp (by rfl) (by kernel_rfl) (by rfl) (VPure.lss rfl rfl rfl) ?_)) | refine VCode.seq ?_ | refine VCode.region rfl ?_))
      refine VCode.cond_f rfl (decide_eq_false (by omega)) ?_
      (repeat (first | ((with_reducible refine VOps.same ?_); (first | (refine VOps.nil ?_; try dsimp only [VThen, VBlock]) | refine VOps.vp (by rfl) (by kernel_rfl) (by rfl) (VPure.assign rfl rfl) ?_)) | refine VCode.seq ?_ | refine VCode.region rfl ?_ | refine VCode.exit ?_))
      refine VCode.give hcx rfl rfl rfl rfl rfl ?_
      rw [List.take_of_length_le hge, List.take_of_length_le (by omega)] at hs
      rw [decide_eq_true hs]
theorem countsr_v (l : List Nd) (hl : l.length ≤ 1000000) (hE : sumE l ≤ 1000000000000000) (hP : sumP l ≤ 1000000000000000) (hs : ∀ u ∈ l, u.e.length ≤ 1000000 ∧ u.p.length ≤ 1000000) : VCalls Try.prog 15 [.el [.sl 2 ((l.map rowN).map fun r => r.map N.toD)]] [] 0 (Gives (.tup [.val (.int .i64 (l.length : Int)), .val (.int .i64 (sumE l : Int)), .val (.int .i64 (sumP l : Int))])) := by
  rw [dn_rows]; exact counts_v l hl hE hP hs
def w1 : List Nd := [⟨3, 0, [], []⟩]
def w2 : List Nd := [⟨3, 0, [], []⟩, ⟨3, 1, [], []⟩]
def w3 : List Nd := [⟨3, 0, [], []⟩, ⟨3, 1, [(7, 0)], []⟩]
def w4 : List Nd := [⟨3, 0, [], []⟩, ⟨3, 1, [(7, 0)], [4]⟩]
theorem wk1 : VCalls Try.prog 9 [.ptr 0 0, .val (.int .i64 3), .val (.int .i64 0)] (stH []) 3 (Leaves (.tup [.val (.int .i64 0), .val (.bool true)]) (stH' w1) 4) := node_v [] 3 0 (by decide)
theorem wk2 : VCalls Try.prog 9 [.ptr 0 0, .val (.int .i64 3), .val (.int .i64 1)] (stH w1) 3 (Leaves (.tup [.val (.int .i64 1), .val (.bool true)]) (stH' w2) 4) := node_v w1 3 1 (by decide)
theorem wk3 : VCalls Try.prog 9 [.ptr 0 0, .val (.int .i64 3), .val (.int .i64 0)] (stH w2) 3 (Leaves (.tup [.val (.int .i64 0), .val (.bool false)]) (stH' w2) 4) := node_v w2 3 0 (by decide)
theorem wk4 : VCalls Try.prog 11 [.ptr 0 0, .val (.int .i64 1), .val (.int .i64 7), .val (.int .i64 0)] (stH w2) 3 (Leaves (.val (.bool true)) (stH' w3) 4) := edge_v w2 1 7 0 (by decide)
theorem wk5 : VCalls Try.prog 11 [.ptr 0 0, .val (.int .i64 1), .val (.int .i64 7), .val (.int .i64 0)] (stH w3) 3 (Leaves (.val (.bool false)) (stH' w3) 4) := edge_v w3 1 7 0 (by decide)
theorem wk6 : VCalls Try.prog 11 [.ptr 0 0, .val (.int .i64 1), .val (.int .i64 7), .val (.int .i64 9)] (stH w3) 3 (Leaves (.val (.bool false)) (stH' w3) 4) := edge_v w3 1 7 9 (by decide)
theorem wk7 : VCalls Try.prog 13 [.ptr 0 0, .val (.int .i64 1), .val (.int .i64 4)] (stH w3) 3 (Leaves (.val (.bool true)) (stH' w4) 4) := pop_v w3 1 4 (by decide)
theorem wk8 : VCalls Try.prog 13 [.ptr 0 0, .val (.int .i64 1), .val (.int .i64 4)] (stH w4) 3 (Leaves (.val (.bool false)) (stH' w4) 4) := pop_v w4 1 4 (by decide)
theorem wk9 : VCalls Try.prog 15 [.el [.sl 2 ((w4.map rowN).map fun r => r.map N.toD)]] [] 0 (Gives (.tup [.val (.int .i64 2), .val (.int .i64 1), .val (.int .i64 1)])) := countsr_v w4 (by decide) (by decide) (by decide) (by decide)
theorem wk10 : VCalls Try.prog 20 [.ptr 0 0, .val (.int .i64 1)] (stH w4) 3 (Leaves (.sl 2 ([(7, 0)].map encP)) (stH' w4) 4) := edges_o w4 1 (by decide)
theorem wk11 : VCalls Try.prog 21 [.ptr 0 0, .val (.int .i64 1)] (stH w4) 3 (Leaves (.sl 1 ([4].map encZ)) (stH' w4) 4) := pops_o w4 1 (by decide)
set_option maxHeartbeats 4000000 in
theorem wakes_v : VCalls Try.prog 8 [] [] 0 (Gives (.val (.bool true))) := by
  refine VCalls.enterD (n := 130) Try.func8 rfl rfl (by simp) rfl (fun cx hcx => ?_)
  (repeat (first | ((with_reducible refine VOps.same ?_); (first | (refine VOps.nil ?_; try dsimp only [VThen, VBlock]) | refine VOps.vp (by rfl) (by kernel_rfl) (by rfl) (VPure.assign rfl rfl) ?_)) | refine VCode.seq ?_ | refine VCode.region rfl ?_))
  (refine VOps.callL (ch := []) [] rfl Try.func7 rfl (by kernel_rfl) rfl rfl rfl rfl ?hh (by decide) rfl rfl rfl (new_v) rfl (by rfl) rfl ?_; (case hh => repeat (first | exact SubH.nil | refine SubH.cons rfl rfl rfl ?_)))
  (repeat (first | ((with_reducible refine VOps.same ?_); (first | (refine VOps.nil ?_; try dsimp only [VThen, VBlock]) | refine VOps.vp (by rfl) (by kernel_rfl) (by rfl) (VPure.move rfl rfl) ?_ | refine VOps.vp (by rfl) (by kernel_rfl) (by rfl) (VPure.assign rfl rfl) ?_ | refine VOps.vp (by rfl) (by kernel_rfl) (by rfl) (VPure.nil_ptr rfl TI.und' rfl rfl rfl) ?_)) | refine VCode.seq ?_ | refine VCode.region rfl ?_))
  refine VCode.cond_f rfl rfl ?_
  (repeat (first | ((with_reducible refine VOps.same ?_); (first | refine VOps.vp (by rfl) (by kernel_rfl) (by rfl) (VPure.move rfl rfl) ?_)) | refine VCode.seq ?_ | refine VCode.region rfl ?_ | refine VCode.skip ?_))
  (refine VOps.callL (ch := [(0, .cells 57 [.ref 1, .ref 2]), (1, .nest 61 2 (([] : List Nd).map rowN) none), (2, .map (knownE []))]) [0, 1, 2] rfl Try.func9 rfl (by kernel_rfl) rfl rfl rfl rfl ?hh (by decide) rfl rfl rfl (wk1) rfl (by rfl) rfl ?_; (case hh => repeat (first | exact SubH.nil | refine SubH.cons rfl rfl rfl ?_)))
  (repeat (first | ((with_reducible refine VOps.same ?_); (first | (refine VOps.nil ?_; try dsimp only [VThen, VBlock]) | refine VOps.vp (by rfl) (by kernel_rfl) (by rfl) (VPure.move rfl rfl) ?_ | refine VOps.vp (by rfl) (by kernel_rfl) (by rfl) (VPure.assign rfl rfl) ?_ | refine VOps.vp (by rfl) (by kernel_rfl) (by rfl) (VPure.extract rfl rfl rfl) ?_)) | refine VCode.seq ?_ | refine VCode.region rfl ?_))
  (refine VOps.callL (ch := [(0, .cells 57 [.ref 1, .ref 2]), (1, .nest 61 2 (w1.map rowN) none), (2, .map (knownE w1))]) [0, 3, 2] rfl Try.func9 rfl (by kernel_rfl) rfl rfl rfl rfl ?hh (by decide) rfl rfl rfl (wk2) rfl (by rfl) rfl ?_; (case hh => repeat (first | exact SubH.nil | refine SubH.cons rfl rfl rfl ?_)))
  (repeat (first | ((with_reducible refine VOps.same ?_); (first | (refine VOps.nil ?_; try dsimp only [VThen, VBlock]) | refine VOps.vp (by rfl) (by kernel_rfl) (by rfl) (VPure.move rfl rfl) ?_ | refine VOps.vp (by rfl) (by kernel_rfl) (by rfl) (VPure.assign rfl rfl) ?_ | refine VOps.vp (by rfl) (by kernel_rfl) (by rfl) (VPure.extract rfl rfl rfl) ?_)) | refine VCode.seq ?_ | refine VCode.region rfl ?_))
  (refine VOps.callL (ch := [(0, .cells 57 [.ref 1, .ref 2]), (1, .nest 61 2 (w2.map rowN) none), (2, .map (knownE w2))]) [0, 4, 2] rfl Try.func9 rfl (by kernel_rfl) rfl rfl rfl rfl ?hh (by decide) rfl rfl rfl (wk3) rfl (by rfl) rfl ?_; (case hh => repeat (first | exact SubH.nil | refine SubH.cons rfl rfl rfl ?_)))
  (repeat (first | ((with_reducible refine VOps.same ?_); (first | (refine VOps.nil ?_; try dsimp only [VThen, VBlock]) | refine VOps.vp (by rfl) (by kernel_rfl) (by rfl) (VPure.move rfl rfl) ?_ | refine VOps.vp (by rfl) (by kernel_rfl) (by rfl) (VPure.assign rfl rfl) ?_ | refine VOps.vp (by rfl) (by kernel_rfl) (by rfl) (VPure.extract rfl rfl rfl) ?_)) | refine VCode.seq ?_ | refine VCode.region rfl ?_))
  (refine VOps.callL (ch := [(0, .cells 57 [.ref 1, .ref 2]), (1, .nest 61 2 (w2.map rowN) none), (2, .map (knownE w2))]) [0, 5, 2] rfl Try.func11 rfl (by kernel_rfl) rfl rfl rfl rfl ?hh (by decide) rfl rfl rfl (wk4) rfl (by rfl) rfl ?_; (case hh => repeat (first | exact SubH.nil | refine SubH.cons rfl rfl rfl ?_)))
  (repeat (first | ((with_reducible refine VOps.same ?_); (first | refine VOps.vp (by rfl) (by kernel_rfl) (by rfl) (VPure.move rfl rfl) ?_))))
  (refine VOps.callL (ch := [(0, .cells 57 [.ref 1, .ref 2]), (1, .nest 61 2 (w3.map rowN) none), (2, .map (knownE w3))]) [0, 6, 2] rfl Try.func11 rfl (by kernel_rfl) rfl rfl rfl rfl ?hh (by decide) rfl rfl rfl (wk5) rfl (by rfl) rfl ?_; (case hh => repeat (first | exact SubH.nil | refine SubH.cons rfl rfl rfl ?_)))
  (repeat (first | ((with_reducible refine VOps.same ?_); (first | refine VOps.vp (by rfl) (by kernel_rfl) (by rfl) (VPure.move rfl rfl) ?_))))
  (refine VOps.callL (ch := [(0, .cells 57 [.ref 1, .ref 2]), (1, .nest 61 2 (w3.map rowN) none), (2, .map (knownE w3))]) [0, 7, 2] rfl Try.func11 rfl (by kernel_rfl) rfl rfl rfl rfl ?hh (by decide) rfl rfl rfl (wk6) rfl (by rfl) rfl ?_; (case hh => repeat (first | exact SubH.nil | refine SubH.cons rfl rfl rfl ?_)))
  (repeat (first | ((with_reducible refine VOps.same ?_); (first | (refine VOps.nil ?_; try dsimp only [VThen, VBlock]) | refine VOps.vp (by rfl) (by kernel_rfl) (by rfl) (VPure.move rfl rfl) ?_ | refine VOps.vp (by rfl) (by kernel_rfl) (by rfl) (VPure.assign rfl rfl) ?_)) | refine VCode.seq ?_ | refine VCode.region rfl ?_))
  (refine VOps.callL (ch := [(0, .cells 57 [.ref 1, .ref 2]), (1, .nest 61 2 (w3.map rowN) none), (2, .map (knownE w3))]) [0, 8, 2] rfl Try.func13 rfl (by kernel_rfl) rfl rfl rfl rfl ?hh (by decide) rfl rfl rfl (wk7) rfl (by rfl) rfl ?_; (case hh => repeat (first | exact SubH.nil | refine SubH.cons rfl rfl rfl ?_)))
  (repeat (first | ((with_reducible refine VOps.same ?_); (first | refine VOps.vp (by rfl) (by kernel_rfl) (by rfl) (VPure.move rfl rfl) ?_))))
  (refine VOps.callL (ch := [(0, .cells 57 [.ref 1, .ref 2]), (1, .nest 61 2 (w4.map rowN) none), (2, .map (knownE w4))]) [0, 9, 2] rfl Try.func13 rfl (by kernel_rfl) rfl rfl rfl rfl ?hh (by decide) rfl rfl rfl (wk8) rfl (by rfl) rfl ?_; (case hh => repeat (first | exact SubH.nil | refine SubH.cons rfl rfl rfl ?_)))
  (repeat (first | ((with_reducible refine VOps.same ?_); (first | (refine VOps.nil ?_; try dsimp only [VThen, VBlock]) | refine VOps.vp (by rfl) (by kernel_rfl) (by rfl) (VPure.move rfl rfl) ?_ | refine VOps.vp (by rfl) (by kernel_rfl) (by rfl) (VPure.assign rfl rfl) ?_)) | refine VCode.seq ?_ | refine VCode.region rfl ?_))
  refine VOps.pure rfl Try.func15 rfl (by kernel_rfl) rfl rfl rfl rfl rfl rfl rfl (wk9) ?_
  (repeat (first | ((with_reducible refine VOps.same ?_); (first | (refine VOps.nil ?_; try dsimp only [VThen, VBlock]) | refine VOps.vp (by rfl) (by kernel_rfl) (by rfl) (VPure.move rfl rfl) ?_ | refine VOps.vp (by rfl) (by kernel_rfl) (by rfl) (VPure.assign rfl rfl) ?_ | refine VOps.vp (by rfl) (by kernel_rfl) (by rfl) (VPure.extract rfl rfl rfl) ?_)) | refine VCode.seq ?_ | refine VCode.region rfl ?_))
  (refine VOps.callL (ch := [(0, .cells 57 [.ref 1, .ref 2]), (1, .nest 61 2 (w4.map rowN) none), (2, .map (knownE w4))]) [0, 10, 2] rfl Try.func20 rfl (by kernel_rfl) rfl rfl rfl rfl ?hh (by decide) rfl rfl rfl (wk10) rfl (by rfl) rfl ?_; (case hh => repeat (first | exact SubH.nil | refine SubH.cons rfl rfl rfl ?_)))
  (repeat (first | ((with_reducible refine VOps.same ?_); (first | (refine VOps.nil ?_; try dsimp only [VThen, VBlock]) | refine VOps.vp (by rfl) (by kernel_rfl) (by rfl) (VPure.move rfl rfl) ?_ | refine VOps.vp (by rfl) (by kernel_rfl) (by rfl) (VPure.assign rfl rfl) ?_ | refine VOps.vp (by rfl) (by kernel_rfl) (by rfl) (VPure.len_map TI.und' rfl rfl) ?_ | (refine VOps.vp (by rfl) (by kernel_rfl) (by rfl) (VPure.idx_sl rfl rfl rfl ?b1 ?b2) ?_; (case b1 => (first | omega | (simp only [List.length_map, List.length_append, List.length_cons, List.length_nil] at *; omega) | (simp; omega))); (case b2 => (first | omega | (simp only [List.length_map, List.length_append, List.length_cons, List.length_nil] at *; omega) | (simp; omega)))) | refine VOps.vv (by rfl) (by kernel_rfl) (by rfl) (VLoad.elA rfl rfl (by rfl) (Nat.le_of_ble_eq_true (by rfl))) ?_ | refine VOps.vp (by rfl) (by kernel_rfl) (by rfl) (VPure.eqi rfl rfl rfl) ?_ | refine VOps.vp (by rfl) (by kernel_rfl) (by rfl) (VPure.eqA rfl rfl rfl (by rfl)) ?_ | refine VOps.vp (by rfl) (by kernel_rfl) (by rfl) (VPure.not rfl rfl) ?_ | refine VOps.vp (by rfl) (by kernel_rfl) (by rfl) (VPure.pick_t rfl rfl rfl) ?_ | refine VOps.vp (by rfl) (by kernel_rfl) (by rfl) (VPure.buildC rfl (by kernel_rfl) rfl (by rfl)) ?_)) | refine VCode.seq ?_ | refine VCode.region rfl ?_))
  (refine VOps.callL (ch := [(0, .cells 57 [.ref 1, .ref 2]), (1, .nest 61 2 (w4.map rowN) none), (2, .map (knownE w4))]) [0, 11, 2] rfl Try.func21 rfl (by kernel_rfl) rfl rfl rfl rfl ?hh (by decide) rfl rfl rfl (wk11) rfl (by rfl) rfl ?_; (case hh => repeat (first | exact SubH.nil | refine SubH.cons rfl rfl rfl ?_)))
  (repeat (first | ((with_reducible refine VOps.same ?_); (first | refine VOps.one rfl rfl (by kernel_rfl) rfl (by rfl) (by decide) (by decide) rfl (by rfl) (by rfl) ?_))))
  refine VOps.pure rfl Try.func22 rfl (by kernel_rfl) rfl rfl rfl rfl rfl rfl rfl (ints_v [4] [4] (by decide)) ?_
  (repeat (first | ((with_reducible refine VOps.same ?_); (first | (refine VOps.nil ?_; try dsimp only [VThen, VBlock]) | refine VOps.vp (by rfl) (by kernel_rfl) (by rfl) (VPure.assign rfl rfl) ?_ | refine VOps.vp (by rfl) (by kernel_rfl) (by rfl) (VPure.pick_t rfl rfl rfl) ?_))))
  refine VCode.retD rfl rfl (.tmp rfl .nil) ?_
  rfl
end Go.Proofs.Ytdkgbkmaeeicoaa.V

/- close: CloseHolds. -/
import Derived.Test.YtbpjlpokmnmmmaaVCWakes
import Derived.Test.YtbpjlpokmnmmmaaVOpens
import Derived.Test.YtbpjlpokmnmmmaaVCWithin
set_option linter.unusedVariables false
set_option linter.unusedSimpArgs false
namespace Go.Proofs.Ytbpjlpokmnmmmaa.V
open Go Go.RowKit Go.Proofs.Ytbpjlpokmnmmmaa.CG
theorem may_app {n : Net} {a b : List Int} (ha : mayB n a = true) (hb : mayB n b = true) : mayB n (a ++ b) = true := by
  unfold mayB at ha hb ⊢
  simp only [Bool.and_eq_true, Bool.not_eq_true', List.any_append, Bool.or_eq_false_iff] at ha hb ⊢
  exact ⟨ha.1, ha.2, hb.2⟩
theorem one_label {n : Net} {a : List Int} (hg : goodNet n = true) (x : Nat) (hx : closI n (stepTo n a (x : Int)) = [] ↔ stepTo n a (x : Int) = []) : decide (0 < ((closI n (stepTo n a (x : Int))).length : Int)) = allB [(x : Int)] (labels n a) := by
  have h1 : allB [(x : Int)] (labels n a) = inB (labels n a) (x : Int) := by unfold allB; simp
  rw [h1, Bool.eq_iff_iff, decide_eq_true_iff, inB_iff, label_step hg]
  cases h : closI n (stepTo n a (x : Int)) with
  | nil => simp [hx.1 h]
  | cons y r =>
    have : stepTo n a (x : Int) ≠ [] := fun e => by rw [hx.2 e] at h; cases h
    simp [this]
set_option maxHeartbeats 4000000 in
theorem holds_v (n : Net) (l more : List Int) (hn : n.length ≤ 140737488355328) (hl : l.length ≤ 140737488355328) (hlm : more.length ≤ 140737488355328) (hu : ∀ k ∈ l, 0 ≤ k ∧ k < 65536) (hu2 : ∀ k ∈ more, 0 ≤ k ∧ k < 65536) : VCalls Try.prog 4 [netV n, .sl 1 (l.map encU), .sl 1 (more.map encU)] [] 0 (Gives (.val (.bool true))) := by
  refine VCalls.enterD (n := 158) Try.func4 rfl rfl (by simp) rfl (fun cx hcx => ?_)
  (repeat (first | ((with_reducible refine VOps.same ?_); (first | (refine VOps.nil ?_; try dsimp only [VThen, VBlock]) | refine VOps.vp (by rfl) (by kernel_rfl) (by rfl) (VPure.assign rfl rfl) ?_ | refine VOps.vp (by rfl) (by kernel_rfl) (by rfl) (VPure.field_ptr rfl rfl rfl) ?_ | refine VOps.vv (by rfl) (by kernel_rfl) (by rfl) (VLoad.box1 rfl rfl rfl rfl (by rfl) (by decide)) ?_ | refine VOps.box rfl rfl (by kernel_rfl) rfl rfl rfl rfl ?_)) | refine VCode.seq ?_ | refine VCode.region rfl ?_))
  refine VOps.pure rfl Try.func7 rfl (by kernel_rfl) rfl rfl rfl rfl rfl rfl rfl (large_v n 3000 (by decide) hn) ?_
  (repeat (first | ((with_reducible refine VOps.same ?_); (first | refine VOps.vp (by rfl) (by kernel_rfl) (by rfl) (VPure.move rfl rfl) ?_))))
  refine VOps.bool (d := 25) rfl (fun h1 => ?_) (fun h1 => ?_)
  · (repeat (first | ((with_reducible refine VOps.same ?_); (first | (refine VOps.nil ?_; try dsimp only [VThen, VBlock]) | refine VOps.vp (by rfl) (by kernel_rfl) (by rfl) (VPure.move rfl rfl) ?_ | refine VOps.vp (by rfl) (by kernel_rfl) (by rfl) (VPure.pick_t rfl rfl rfl) ?_ | refine VOps.passv rfl (by kernel_rfl) rfl ?_))))
    refine VCode.cond_t rfl rfl ?_
    (repeat (first | refine VCode.seq ?_ | refine VCode.region rfl ?_))
    refine VOps.pure rfl Try.func8 rfl (by kernel_rfl) rfl rfl rfl rfl rfl rfl rfl (wakes_v) ?_
    (repeat (first | ((with_reducible refine VOps.same ?_); (first | (refine VOps.nil ?_; try dsimp only [VThen, VBlock]) | refine VOps.vp (by rfl) (by kernel_rfl) (by rfl) (VPure.assign rfl rfl) ?_))))
    refine VCode.retD rfl rfl (.tmp rfl .nil) ?_
    rfl
  have hw := weight_small (most := 3000) n (by have := of_decide_eq_false h1; omega)
  (repeat (first | ((with_reducible refine VOps.same ?_); (first | refine VOps.vv (by rfl) (by kernel_rfl) (by rfl) (VLoad.boxA rfl rfl rfl (by rfl) (Nat.le_of_ble_eq_true (by rfl)) (by decide)) ?_))))
  refine VOps.pure rfl Try.func20 rfl (by kernel_rfl) rfl rfl rfl rfl rfl rfl rfl (rgood_v n (by omega) (by omega)) ?_
  (repeat (first | ((with_reducible refine VOps.same ?_); (first | refine VOps.vp (by rfl) (by kernel_rfl) (by rfl) (VPure.move rfl rfl) ?_ | refine VOps.vp (by rfl) (by kernel_rfl) (by rfl) (VPure.not rfl rfl) ?_ | refine VOps.vp (by rfl) (by kernel_rfl) (by rfl) (VPure.pick_f rfl rfl rfl) ?_))))
  refine VOps.bool (d := 30) rfl (fun h2 => ?_) (fun h2 => ?_)
  · (repeat (first | ((with_reducible refine VOps.same ?_); (first | (refine VOps.nil ?_; try dsimp only [VThen, VBlock]) | refine VOps.vp (by rfl) (by kernel_rfl) (by rfl) (VPure.move rfl rfl) ?_ | refine VOps.vp (by rfl) (by kernel_rfl) (by rfl) (VPure.pick_t rfl rfl rfl) ?_ | refine VOps.passv rfl (by kernel_rfl) rfl ?_))))
    refine VCode.cond_t rfl rfl ?_
    (repeat (first | refine VCode.seq ?_ | refine VCode.region rfl ?_))
    refine VOps.pure rfl Try.func8 rfl (by kernel_rfl) rfl rfl rfl rfl rfl rfl rfl (wakes_v) ?_
    (repeat (first | ((with_reducible refine VOps.same ?_); (first | (refine VOps.nil ?_; try dsimp only [VThen, VBlock]) | refine VOps.vp (by rfl) (by kernel_rfl) (by rfl) (VPure.assign rfl rfl) ?_))))
    refine VCode.retD rfl rfl (.tmp rfl .nil) ?_
    rfl
  have hg : goodNet n = true := by simpa using h2
  obtain ⟨g1, g2, g3, g4, g5⟩ := good_edges hg
  (repeat (first | ((with_reducible refine VOps.same ?_); (first | refine VOps.vp (by rfl) (by kernel_rfl) (by rfl) (VPure.move rfl rfl) ?_ | refine VOps.vp (by rfl) (by kernel_rfl) (by rfl) (VPure.len_map TI.und' rfl rfl) ?_ | refine VOps.vp (by rfl) (by kernel_rfl) (by rfl) (VPure.gtr rfl rfl rfl) ?_ | refine VOps.vp (by rfl) (by kernel_rfl) (by rfl) (VPure.pick_f rfl rfl rfl) ?_))))
  refine VOps.bool (d := 35) rfl (fun h3 => ?_) (fun h3 => ?_)
  · (repeat (first | ((with_reducible refine VOps.same ?_); (first | (refine VOps.nil ?_; try dsimp only [VThen, VBlock]) | refine VOps.vp (by rfl) (by kernel_rfl) (by rfl) (VPure.pick_t rfl rfl rfl) ?_ | refine VOps.passv rfl (by kernel_rfl) rfl ?_))))
    refine VCode.cond_t rfl rfl ?_
    (repeat (first | refine VCode.seq ?_ | refine VCode.region rfl ?_))
    refine VOps.pure rfl Try.func8 rfl (by kernel_rfl) rfl rfl rfl rfl rfl rfl rfl (wakes_v) ?_
    (repeat (first | ((with_reducible refine VOps.same ?_); (first | (refine VOps.nil ?_; try dsimp only [VThen, VBlock]) | refine VOps.vp (by rfl) (by kernel_rfl) (by rfl) (VPure.assign rfl rfl) ?_))))
    refine VCode.retD rfl rfl (.tmp rfl .nil) ?_
    rfl
  have h3 : l.length ≤ 100 := by have := of_decide_eq_false h3; omega
  (repeat (first | ((with_reducible refine VOps.same ?_); (first | (refine VOps.nil ?_; try dsimp only [VThen, VBlock]) | refine VOps.vp (by rfl) (by kernel_rfl) (by rfl) (VPure.move rfl rfl) ?_ | refine VOps.vp (by rfl) (by kernel_rfl) (by rfl) (VPure.len_map TI.und' rfl rfl) ?_ | refine VOps.vp (by rfl) (by kernel_rfl) (by rfl) (VPure.gtr rfl rfl rfl) ?_ | refine VOps.vp (by rfl) (by kernel_rfl) (by rfl) (VPure.pick_f rfl rfl rfl) ?_))))
  refine VCode.cond rfl (fun h4 => ?_) (fun h4 => ?_)
  · skip
    (repeat (first | refine VCode.seq ?_ | refine VCode.region rfl ?_))
    refine VOps.pure rfl Try.func8 rfl (by kernel_rfl) rfl rfl rfl rfl rfl rfl rfl (wakes_v) ?_
    (repeat (first | ((with_reducible refine VOps.same ?_); (first | (refine VOps.nil ?_; try dsimp only [VThen, VBlock]) | refine VOps.vp (by rfl) (by kernel_rfl) (by rfl) (VPure.assign rfl rfl) ?_))))
    refine VCode.retD rfl rfl (.tmp rfl .nil) ?_
    rfl
  have h4 : more.length ≤ 100 := by have := of_decide_eq_false h4; omega
  (repeat (first | ((with_reducible refine VOps.same ?_); (first | (refine VOps.nil ?_; try dsimp only [VThen, VBlock]) | refine VOps.vp (by rfl) (by kernel_rfl) (by rfl) (VPure.assign rfl rfl) ?_)) | refine VCode.seq ?_ | refine VCode.region rfl ?_ | refine VCode.block ?_ | refine VCode.skip ?_))
  refine VCode.nilObj 7 3 1 rfl ?_
  refine VCode.nilObj 8 3 1 rfl ?_
  refine VCode.loop (fun m st => ∃ i : Nat, i ≤ l.length ∧ m = l.length - i ∧ st = ⟨[(9, .val (.int .i64 (i : Int))), (1, .sl 1 (l.map encU)), (2, .sl 1 (more.map encU)), (3, .ptr 0 0), (7, .ref 1), (8, .ref 2)], [(0, .cells 24 [.sl 1 (n.map encL)]), (1, .arr 3 1 ((pOf n (l.take i)).map encZ)), (2, .arr 3 1 [])], 3⟩) l.length ?_ ?_
  · (refine Less.mk (l := [0, 1, 2]) hcx ?ss ?hh rfl (by decide) rfl ⟨0, by omega, by omega, rfl⟩; (case ss => repeat (first | exact SubS.nil | refine SubS.cons rfl rfl ?_ | refine SubS.cons (congrArg (fun z => some (V.val (Value.int IntKind.i64 z))) (by omega)) rfl ?_ | refine SubS.cons (congrArg (fun z => some (V.val (Value.bool z))) (by assumption)) rfl ?_)); (case hh => repeat (first | exact SubH.nil | refine SubH.cons rfl rfl rfl ?_)))
  rintro m st ⟨i, hi, rfl, rfl⟩
  have hpl : (pOf n (l.take i)).length ≤ 100 := by unfold pOf; rw [List.length_map, List.length_take]; omega
  cases ht : l[i]? with
  | some k =>
    have hlt : i < l.length := (List.getElem?_eq_some_iff.1 ht).1
    obtain ⟨hk0, hk1⟩ := hu k (List.mem_of_getElem? ht)
    have hk64 : (Lit.int .i64 k).wf = true := by simp [Lit.wf, IntKind.min, IntKind.max, IntKind.signed, IntKind.bits]; omega
    have hps := pOf_succ (n := n) ht
    (repeat (first | ((with_reducible refine VOps.same ?_); (first | (refine VOps.nil ?_; try dsimp only [VThen, VBlock]) | refine VOps.vp (by rfl) (by kernel_rfl) (by rfl) (VPure.move rfl rfl) ?_ | refine VOps.vp (by rfl) (by kernel_rfl) (by rfl) (VPure.len_map TI.und' rfl rfl) ?_ | refine VOps.vp (by rfl) (by kernel_rfl) (by rfl) (VPure.lss rfl rfl rfl) ?_)) | refine VCode.seq ?_ | refine VCode.region rfl ?_))
    refine VCode.cond_t rfl (decide_eq_true (by omega)) ?_
    (repeat (first | refine VCode.seq ?_ | refine VCode.block ?_ | refine VCode.skip ?_))
    refine VCode.draw [1] rfl ?_
    (repeat (first | ((with_reducible refine VOps.same ?_); (first | refine VOps.vp (by rfl) (by kernel_rfl) (by rfl) (VPure.move rfl rfl) ?_ | refine VOps.vp (by rfl) (by kernel_rfl) (by rfl) (VPure.len_map TI.und' rfl rfl) ?_ | refine VOps.vp (by rfl) (by kernel_rfl) (by rfl) (VPure.idx_map rfl rfl rfl (by assumption)) ?_ | refine VOps.vp (by rfl) (by kernel_rfl) (by rfl) (VPure.field_ptr rfl rfl rfl) ?_ | refine VOps.vv (by rfl) (by kernel_rfl) (by rfl) (VLoad.el1 rfl rfl rfl (by rfl)) ?_ | refine VOps.vv (by rfl) (by kernel_rfl) (by rfl) (VLoad.box1 rfl rfl rfl rfl (by rfl) (by decide)) ?_ | refine VOps.vp (by rfl) (by kernel_rfl) (by rfl) (VPure.rem rfl rfl rfl (by omega) (by omega)) ?_ | refine VOps.vp (by rfl) (by kernel_rfl) (by rfl) (VPure.convK TI.und' TI.und' rfl rfl (by assumption)) ?_ | refine VOps.one rfl rfl (by kernel_rfl) rfl (by rfl) (by decide) (by decide) rfl (by rfl) (by rfl) ?_))))
    refine VOps.append (zs := (pOf n (l.take (i + 1))).map encZ) rfl rfl (by kernel_rfl) rfl (by rfl) (by decide) rfl (.arr rfl) rfl (.arr rfl) (by simp only [List.length_append, List.length_cons, List.length_nil, List.length_map]; unfold most; omega) (by simp only [List.length_append, List.length_cons, List.length_nil, List.length_map]; unfold most; omega) rfl ( by rw [hps, List.map_append]; rfl) ?_
    (repeat (first | ((with_reducible refine VOps.same ?_); (first | (refine VOps.nil ?_; try dsimp only [VThen, VBlock]) | refine VOps.vp (by rfl) (by kernel_rfl) (by rfl) (VPure.move rfl rfl) ?_ | refine VOps.vp (by rfl) (by kernel_rfl) (by rfl) (VPure.assign rfl rfl) ?_ | refine VOps.vp (by rfl) (by kernel_rfl) (by rfl) (VPure.addK rfl rfl rfl (by omega)) ?_)) | refine VCode.region rfl ?_))
    (refine Less.mk (l := [0, 4, 2]) hcx ?ss ?hh rfl (by decide) rfl ⟨_, ?_, i + 1, by omega, rfl, rfl⟩; (case ss => repeat (first | exact SubS.nil | refine SubS.cons rfl rfl ?_ | refine SubS.cons (congrArg (fun z => some (V.val (Value.int IntKind.i64 z))) (by omega)) rfl ?_ | refine SubS.cons (congrArg (fun z => some (V.val (Value.bool z))) (by assumption)) rfl ?_)); (case hh => repeat (first | exact SubH.nil | refine SubH.cons rfl rfl rfl ?_)))
    omega
  | none =>
    have hge : l.length ≤ i := List.getElem?_eq_none_iff.1 ht
    obtain rfl : i = l.length := by omega
    rw [List.take_length] at *
    clear hi
    (repeat (first | ((with_reducible refine VOps.same ?_); (first | (refine VOps.nil ?_; try dsimp only [VThen, VBlock]) | refine VOps.vp (by rfl) (by kernel_rfl) (by rfl) (VPure.move rfl rfl) ?_ | refine VOps.vp (by rfl) (by kernel_rfl) (by rfl) (VPure.len_map TI.und' rfl rfl) ?_ | refine VOps.vp (by rfl) (by kernel_rfl) (by rfl) (VPure.lss rfl rfl rfl) ?_)) | refine VCode.seq ?_ | refine VCode.region rfl ?_))
    refine VCode.cond_f rfl (decide_eq_false (by omega)) ?_
    refine VCode.freeze (id := 1) rfl ?_
    (repeat (first | ((with_reducible refine VOps.same ?_); (first | refine VOps.vp (by rfl) (by kernel_rfl) (by rfl) (VPure.move rfl rfl) ?_)) | refine VCode.seq ?_ | refine VCode.region rfl ?_ | refine VCode.exit ?_))
    refine VOps.append (zs := (pOf n l).map encZ) rfl rfl (by kernel_rfl) rfl (by rfl) (by decide) rfl (.arr rfl) rfl (.sl) (by simp only [List.length_append, List.length_cons, List.length_nil, List.length_map]; unfold most; omega) (by simp only [List.length_append, List.length_cons, List.length_nil, List.length_map]; unfold most; omega) rfl ( by simp) ?_
    (repeat (first | ((with_reducible refine VOps.same ?_); (first | (refine VOps.nil ?_; try dsimp only [VThen, VBlock]) | refine VOps.vp (by rfl) (by kernel_rfl) (by rfl) (VPure.assign rfl rfl) ?_)) | refine VCode.seq ?_ | refine VCode.region rfl ?_ | refine VCode.block ?_))
    refine VCode.hsays 3 (.arr 3 1 ((pOf n l ++ pOf n (more.take 0)).map encZ)) rfl rfl (by rw [show pOf n (more.take 0) = [] from rfl, List.append_nil]) ?_
    refine VCode.loop (fun m st => ∃ j : Nat, j ≤ more.length ∧ m = more.length - j ∧ st = ⟨[(10, .val (.int .i64 (j : Int))), (2, .sl 1 (more.map encU)), (3, .ptr 0 0), (7, .sl 1 ((pOf n l).map encZ)), (8, .ref 1)], [(0, .cells 24 [.sl 1 (n.map encL)]), (1, .arr 3 1 ((pOf n l ++ pOf n (more.take j)).map encZ))], 2⟩) more.length ?_ ?_
    · (refine Less.mk (l := [0, 3]) hcx ?ss ?hh rfl (by decide) rfl ⟨0, by omega, by omega, rfl⟩; (case ss => repeat (first | exact SubS.nil | refine SubS.cons rfl rfl ?_ | refine SubS.cons (congrArg (fun z => some (V.val (Value.int IntKind.i64 z))) (by omega)) rfl ?_ | refine SubS.cons (congrArg (fun z => some (V.val (Value.bool z))) (by assumption)) rfl ?_)); (case hh => repeat (first | exact SubH.nil | refine SubH.cons rfl rfl rfl ?_)))
    rintro m st ⟨j, hj, rfl, rfl⟩
    have hql : (pOf n (more.take j)).length ≤ 100 := by unfold pOf; rw [List.length_map, List.length_take]; omega
    cases hv : more[j]? with
    | some k =>
      have hlt : j < more.length := (List.getElem?_eq_some_iff.1 hv).1
      obtain ⟨hk0, hk1⟩ := hu2 k (List.mem_of_getElem? hv)
      have hk64 : (Lit.int .i64 k).wf = true := by simp [Lit.wf, IntKind.min, IntKind.max, IntKind.signed, IntKind.bits]; omega
      have hps := pOf_succ (n := n) hv
      (repeat (first | ((with_reducible refine VOps.same ?_); (first | (refine VOps.nil ?_; try dsimp only [VThen, VBlock]) | refine VOps.vp (by rfl) (by kernel_rfl) (by rfl) (VPure.move rfl rfl) ?_ | refine VOps.vp (by rfl) (by kernel_rfl) (by rfl) (VPure.len_map TI.und' rfl rfl) ?_ | refine VOps.vp (by rfl) (by kernel_rfl) (by rfl) (VPure.lss rfl rfl rfl) ?_)) | refine VCode.seq ?_ | refine VCode.region rfl ?_))
      refine VCode.cond_t rfl (decide_eq_true (by omega)) ?_
      (repeat (first | refine VCode.seq ?_ | refine VCode.block ?_ | refine VCode.skip ?_))
      refine VCode.draw [1] rfl ?_
      (repeat (first | ((with_reducible refine VOps.same ?_); (first | refine VOps.vp (by rfl) (by kernel_rfl) (by rfl) (VPure.move rfl rfl) ?_ | refine VOps.vp (by rfl) (by kernel_rfl) (by rfl) (VPure.len_map TI.und' rfl rfl) ?_ | refine VOps.vp (by rfl) (by kernel_rfl) (by rfl) (VPure.idx_map rfl rfl rfl (by assumption)) ?_ | refine VOps.vp (by rfl) (by kernel_rfl) (by rfl) (VPure.field_ptr rfl rfl rfl) ?_ | refine VOps.vv (by rfl) (by kernel_rfl) (by rfl) (VLoad.el1 rfl rfl rfl (by rfl)) ?_ | refine VOps.vv (by rfl) (by kernel_rfl) (by rfl) (VLoad.box1 rfl rfl rfl rfl (by rfl) (by decide)) ?_ | refine VOps.vp (by rfl) (by kernel_rfl) (by rfl) (VPure.rem rfl rfl rfl (by omega) (by omega)) ?_ | refine VOps.vp (by rfl) (by kernel_rfl) (by rfl) (VPure.convK TI.und' TI.und' rfl rfl (by assumption)) ?_ | refine VOps.one rfl rfl (by kernel_rfl) rfl (by rfl) (by decide) (by decide) rfl (by rfl) (by rfl) ?_))))
      refine VOps.append (zs := (pOf n l ++ pOf n (more.take (j + 1))).map encZ) rfl rfl (by kernel_rfl) rfl (by rfl) (by decide) rfl (.arr rfl) rfl (.arr rfl) (by simp only [List.length_append, List.length_cons, List.length_nil, List.length_map]; unfold most; omega) (by simp only [List.length_append, List.length_cons, List.length_nil, List.length_map]; unfold most; omega) rfl ( by rw [hps, ← List.append_assoc, List.map_append (l₂ := [k % (n.length : Int)])]; rfl) ?_
      (repeat (first | ((with_reducible refine VOps.same ?_); (first | (refine VOps.nil ?_; try dsimp only [VThen, VBlock]) | refine VOps.vp (by rfl) (by kernel_rfl) (by rfl) (VPure.move rfl rfl) ?_ | refine VOps.vp (by rfl) (by kernel_rfl) (by rfl) (VPure.assign rfl rfl) ?_ | refine VOps.vp (by rfl) (by kernel_rfl) (by rfl) (VPure.addK rfl rfl rfl (by omega)) ?_)) | refine VCode.region rfl ?_))
      (refine Less.mk (l := [0, 3]) hcx ?ss ?hh rfl (by decide) rfl ⟨_, ?_, j + 1, by omega, rfl, rfl⟩; (case ss => repeat (first | exact SubS.nil | refine SubS.cons rfl rfl ?_ | refine SubS.cons (congrArg (fun z => some (V.val (Value.int IntKind.i64 z))) (by omega)) rfl ?_ | refine SubS.cons (congrArg (fun z => some (V.val (Value.bool z))) (by assumption)) rfl ?_)); (case hh => repeat (first | exact SubH.nil | refine SubH.cons rfl rfl rfl ?_)))
      omega
    | none =>
      have hge : more.length ≤ j := List.getElem?_eq_none_iff.1 hv
      obtain rfl : j = more.length := by omega
      rw [List.take_length] at *
      (repeat (first | ((with_reducible refine VOps.same ?_); (first | (refine VOps.nil ?_; try dsimp only [VThen, VBlock]) | refine VOps.vp (by rfl) (by kernel_rfl) (by rfl) (VPure.move rfl rfl) ?_ | refine VOps.vp (by rfl) (by kernel_rfl) (by rfl) (VPure.len_map TI.und' rfl rfl) ?_ | refine VOps.vp (by rfl) (by kernel_rfl) (by rfl) (VPure.lss rfl rfl rfl) ?_)) | refine VCode.seq ?_ | refine VCode.region rfl ?_))
      refine VCode.cond_f rfl (decide_eq_false (by omega)) ?_
      refine VCode.freeze (id := 1) rfl ?_
      have hp : mayB n (pOf n l) = true := pOf_may (l := l) hg
      have hq : mayB n (pOf n l ++ pOf n more) = true := may_app hp (pOf_may (l := more) hg)
      have hsub : ∀ x ∈ pOf n l, x ∈ pOf n l ++ pOf n more := fun x hx => by simp [hx]
      generalize pOf n l = p at *
      have hql2 : (p ++ pOf n more).length ≤ 200 := by rw [List.length_append]; omega
      generalize p ++ pOf n more = q at *
      refine VCode.lessTo ⟨[(3, .ptr 0 0), (7, .sl 1 (p.map encZ)), (8, .sl 1 (q.map encZ))], [(0, .cells 24 [.sl 1 (n.map encL)])], 1⟩ ?_ ?_
      · (refine Less.mk (l := [0]) hcx ?ss ?hh rfl (by decide) rfl rfl; (case ss => repeat (first | exact SubS.nil | refine SubS.cons rfl rfl ?_ | refine SubS.cons (congrArg (fun z => some (V.val (Value.int IntKind.i64 z))) (by omega)) rfl ?_ | refine SubS.cons (congrArg (fun z => some (V.val (Value.bool z))) (by assumption)) rfl ?_)); (case hh => repeat (first | exact SubH.nil | refine SubH.cons rfl rfl rfl ?_)))
      have ha := closI_may hp
      have hac := closI_closI hp
      have hin := closI_has hp
      have hmo := closI_mono hp hq hsub
      have hal := closI_len n p
      have hcl := closI_len n q
      have o1 := of_v n p (by omega) (by omega) (by omega)
      have o2 := of_v n (closI n p) (by omega) (by omega) (by omega)
      have o3 := of_v n q (by omega) (by omega) (by omega)
      rw [of_is hp] at o1
      rw [of_is ha, hac] at o2
      rw [of_is hq] at o3
      have e4 := allB_true hin
      have e5 := allB_true hmo
      have o4 := ints_v (closI n p) (closI n p) (by omega)
      rw [decide_eq_true rfl] at o4
      have o5 := within_v p (closI n p) (by omega) (by omega)
      rw [e4] at o5
      have o6 := within_v (closI n p) (closI n q) (by omega) (by omega)
      rw [e5] at o6
      have o7 := labels_v n (closI n p) (by omega) (by omega) (by omega)
      rw [labels_is ha] at o7
      have hll := labels_len hg (closI n p)
      have key : ∀ x : Nat, decide (0 < ((closI n (stepTo n (closI n p) (x : Int))).length : Int)) = allB [(x : Int)] (labels n (closI n p)) := fun x => one_label hg x (closI_nil (stepTo_may hg))
      generalize closI n p = a at *
      generalize closI n q = c at *
      (repeat (first | ((with_reducible refine VOps.same ?_); (first | refine VOps.vp (by rfl) (by kernel_rfl) (by rfl) (VPure.move rfl rfl) ?_ | refine VOps.vv (by rfl) (by kernel_rfl) (by rfl) (VLoad.boxA rfl rfl rfl (by rfl) (Nat.le_of_ble_eq_true (by rfl)) (by decide)) ?_)) | refine VCode.seq ?_ | refine VCode.region rfl ?_ | refine VCode.exit ?_))
      refine VOps.gives rfl Try.func10 rfl (by kernel_rfl) rfl rfl rfl rfl rfl rfl rfl rfl (o1) ?_
      (repeat (first | ((with_reducible refine VOps.same ?_); (first | (refine VOps.nil ?_; try dsimp only [VThen, VBlock]) | refine VOps.vp (by rfl) (by kernel_rfl) (by rfl) (VPure.move rfl rfl) ?_ | refine VOps.vp (by rfl) (by kernel_rfl) (by rfl) (VPure.assign rfl rfl) ?_ | refine VOps.vp (by rfl) (by kernel_rfl) (by rfl) (VPure.extract rfl rfl rfl) ?_ | refine VOps.vv (by rfl) (by kernel_rfl) (by rfl) (VLoad.boxA rfl rfl rfl (by rfl) (Nat.le_of_ble_eq_true (by rfl)) (by decide)) ?_)) | refine VCode.seq ?_ | refine VCode.region rfl ?_))
      refine VOps.gives rfl Try.func10 rfl (by kernel_rfl) rfl rfl rfl rfl rfl rfl rfl rfl (o2) ?_
      (repeat (first | ((with_reducible refine VOps.same ?_); (first | (refine VOps.nil ?_; try dsimp only [VThen, VBlock]) | refine VOps.vp (by rfl) (by kernel_rfl) (by rfl) (VPure.move rfl rfl) ?_ | refine VOps.vp (by rfl) (by kernel_rfl) (by rfl) (VPure.assign rfl rfl) ?_ | refine VOps.vp (by rfl) (by kernel_rfl) (by rfl) (VPure.extract rfl rfl rfl) ?_ | refine VOps.vv (by rfl) (by kernel_rfl) (by rfl) (VLoad.boxA rfl rfl rfl (by rfl) (Nat.le_of_ble_eq_true (by rfl)) (by decide)) ?_)) | refine VCode.seq ?_ | refine VCode.region rfl ?_))
      refine VOps.gives rfl Try.func10 rfl (by kernel_rfl) rfl rfl rfl rfl rfl rfl rfl rfl (o3) ?_
      (repeat (first | ((with_reducible refine VOps.same ?_); (first | (refine VOps.nil ?_; try dsimp only [VThen, VBlock]) | refine VOps.vp (by rfl) (by kernel_rfl) (by rfl) (VPure.move rfl rfl) ?_ | refine VOps.vp (by rfl) (by kernel_rfl) (by rfl) (VPure.assign rfl rfl) ?_ | refine VOps.vp (by rfl) (by kernel_rfl) (by rfl) (VPure.extract rfl rfl rfl) ?_ | refine VOps.vp (by rfl) (by kernel_rfl) (by rfl) (VPure.nei rfl rfl rfl) ?_ | refine VOps.vp (by rfl) (by kernel_rfl) (by rfl) (VPure.pick_f rfl rfl rfl) ?_)) | refine VCode.seq ?_ | refine VCode.region rfl ?_))
      refine VOps.pure rfl Try.func16 rfl (by kernel_rfl) rfl rfl rfl rfl rfl rfl rfl (o4) ?_
      (repeat (first | ((with_reducible refine VOps.same ?_); (first | refine VOps.vp (by rfl) (by kernel_rfl) (by rfl) (VPure.move rfl rfl) ?_ | refine VOps.vp (by rfl) (by kernel_rfl) (by rfl) (VPure.not rfl rfl) ?_ | refine VOps.vp (by rfl) (by kernel_rfl) (by rfl) (VPure.pick_f rfl rfl rfl) ?_))))
      refine VOps.pure rfl Try.func21 rfl (by kernel_rfl) rfl rfl rfl rfl rfl rfl rfl (o5) ?_
      (repeat (first | ((with_reducible refine VOps.same ?_); (first | refine VOps.vp (by rfl) (by kernel_rfl) (by rfl) (VPure.move rfl rfl) ?_ | refine VOps.vp (by rfl) (by kernel_rfl) (by rfl) (VPure.not rfl rfl) ?_ | refine VOps.vp (by rfl) (by kernel_rfl) (by rfl) (VPure.pick_f rfl rfl rfl) ?_))))
      refine VOps.pure rfl Try.func21 rfl (by kernel_rfl) rfl rfl rfl rfl rfl rfl rfl (o6) ?_
      (repeat (first | ((with_reducible refine VOps.same ?_); (first | (refine VOps.nil ?_; try dsimp only [VThen, VBlock]) | refine VOps.vp (by rfl) (by kernel_rfl) (by rfl) (VPure.not rfl rfl) ?_ | refine VOps.vp (by rfl) (by kernel_rfl) (by rfl) (VPure.pick_f rfl rfl rfl) ?_))))
      refine VCode.cond_f rfl rfl ?_
      (repeat (first | ((with_reducible refine VOps.same ?_); (first | refine VOps.vp (by rfl) (by kernel_rfl) (by rfl) (VPure.move rfl rfl) ?_ | refine VOps.vv (by rfl) (by kernel_rfl) (by rfl) (VLoad.boxA rfl rfl rfl (by rfl) (Nat.le_of_ble_eq_true (by rfl)) (by decide)) ?_)) | refine VCode.seq ?_ | refine VCode.region rfl ?_ | refine VCode.skip ?_))
      refine VOps.gives rfl Try.func12 rfl (by kernel_rfl) rfl rfl rfl rfl rfl rfl rfl rfl (o7) ?_
      (repeat (first | ((with_reducible refine VOps.same ?_); (first | (refine VOps.nil ?_; try dsimp only [VThen, VBlock]) | refine VOps.vp (by rfl) (by kernel_rfl) (by rfl) (VPure.move rfl rfl) ?_ | refine VOps.vp (by rfl) (by kernel_rfl) (by rfl) (VPure.assign rfl rfl) ?_ | refine VOps.vp (by rfl) (by kernel_rfl) (by rfl) (VPure.extract rfl rfl rfl) ?_ | refine VOps.vp (by rfl) (by kernel_rfl) (by rfl) (VPure.nei rfl rfl rfl) ?_)) | refine VCode.seq ?_ | refine VCode.region rfl ?_))
      refine VCode.cond_f rfl rfl ?_
      (repeat (first | ((with_reducible refine VOps.same ?_); (first | (refine VOps.nil ?_; try dsimp only [VThen, VBlock]) | refine VOps.vp (by rfl) (by kernel_rfl) (by rfl) (VPure.assign rfl rfl) ?_)) | refine VCode.seq ?_ | refine VCode.region rfl ?_ | refine VCode.block ?_ | refine VCode.skip ?_))
      refine VCode.loop (fun m st => ∃ x : Nat, x ≤ 90 ∧ m = 90 - x ∧ st = ⟨[(19, .val (.int .i64 (x : Int))), (3, .ptr 0 0), (11, .sl 1 (a.map encZ)), (17, .sl 1 ((labels n a).map encZ))], [(0, .cells 24 [.sl 1 (n.map encL)])], 1⟩) 90 ?_ ?_
      · (refine Less.mk (l := [0]) hcx ?ss ?hh rfl (by decide) rfl ⟨0, by omega, by omega, rfl⟩; (case ss => repeat (first | exact SubS.nil | refine SubS.cons rfl rfl ?_ | refine SubS.cons (congrArg (fun z => some (V.val (Value.int IntKind.i64 z))) (by omega)) rfl ?_ | refine SubS.cons (congrArg (fun z => some (V.val (Value.bool z))) (by assumption)) rfl ?_)); (case hh => repeat (first | exact SubH.nil | refine SubH.cons rfl rfl rfl ?_)))
      rintro m st ⟨x, hx, rfl, rfl⟩
      (repeat (first | ((with_reducible refine VOps.same ?_); (first | (refine VOps.nil ?_; try dsimp only [VThen, VBlock]) | refine VOps.vp (by rfl) (by kernel_rfl) (by rfl) (VPure.move rfl rfl) ?_ | refine VOps.vp (by rfl) (by kernel_rfl) (by rfl) (VPure.lss rfl rfl rfl) ?_)) | refine VCode.seq ?_ | refine VCode.region rfl ?_))
      refine VCode.cond rfl (fun hb => ?_) (fun hb => ?_)
      · have hb : x < 90 := by have := of_decide_eq_true hb; omega
        have o8 := step_v n a x (by omega) (by omega) (by omega)
        rw [step_is (by omega) ha] at o8
        have o9 := within_v [(x : Int)] (labels n a) (by simp) (by omega)
        have hk := key x
        have hsl := closI_len n (stepTo n a x)
        generalize closI n (stepTo n a x) = s at *
        (repeat (first | ((with_reducible refine VOps.same ?_); (first | refine VOps.vp (by rfl) (by kernel_rfl) (by rfl) (VPure.move rfl rfl) ?_ | refine VOps.vv (by rfl) (by kernel_rfl) (by rfl) (VLoad.boxA rfl rfl rfl (by rfl) (Nat.le_of_ble_eq_true (by rfl)) (by decide)) ?_)) | refine VCode.seq ?_ | refine VCode.region rfl ?_ | refine VCode.block ?_ | refine VCode.skip ?_))
        refine VOps.gives rfl Try.func11 rfl (by kernel_rfl) rfl rfl rfl rfl rfl rfl rfl rfl (o8) ?_
        (repeat (first | ((with_reducible refine VOps.same ?_); (first | (refine VOps.nil ?_; try dsimp only [VThen, VBlock]) | refine VOps.vp (by rfl) (by kernel_rfl) (by rfl) (VPure.move rfl rfl) ?_ | refine VOps.vp (by rfl) (by kernel_rfl) (by rfl) (VPure.assign rfl rfl) ?_ | refine VOps.vp (by rfl) (by kernel_rfl) (by rfl) (VPure.extract rfl rfl rfl) ?_ | refine VOps.vp (by rfl) (by kernel_rfl) (by rfl) (VPure.len_map TI.und' rfl rfl) ?_ | refine VOps.vp (by rfl) (by kernel_rfl) (by rfl) (VPure.gtr rfl rfl rfl) ?_ | refine VOps.vp (by rfl) (by kernel_rfl) (by rfl) (VPure.nei rfl rfl rfl) ?_ | refine VOps.one rfl rfl (by kernel_rfl) rfl (by rfl) (by decide) (by decide) rfl (by rfl) (by rfl) ?_)) | refine VCode.seq ?_ | refine VCode.region rfl ?_))
        refine VOps.pure rfl Try.func21 rfl (by kernel_rfl) rfl rfl rfl rfl rfl rfl rfl (o9) ?_
        (repeat (first | ((with_reducible refine VOps.same ?_); (first | (refine VOps.nil ?_; try dsimp only [VThen, VBlock]) | refine VOps.vp (by rfl) (by kernel_rfl) (by rfl) (VPure.neb TI.und' rfl rfl rfl) ?_ | refine VOps.vp (by rfl) (by kernel_rfl) (by rfl) (VPure.pick_f rfl rfl rfl) ?_))))
        refine VCode.cond_f rfl (by rw [hk]; simp) ?_
        (repeat (first | ((with_reducible refine VOps.same ?_); (first | (refine VOps.nil ?_; try dsimp only [VThen, VBlock]) | refine VOps.vp (by rfl) (by kernel_rfl) (by rfl) (VPure.move rfl rfl) ?_ | refine VOps.vp (by rfl) (by kernel_rfl) (by rfl) (VPure.assign rfl rfl) ?_ | refine VOps.vp (by rfl) (by kernel_rfl) (by rfl) (VPure.addK rfl rfl rfl (by omega)) ?_)) | refine VCode.region rfl ?_ | refine VCode.skip ?_))
        (refine Less.mk (l := [0]) hcx ?ss ?hh rfl (by decide) rfl ⟨_, ?_, x + 1, by omega, rfl, rfl⟩; (case ss => repeat (first | exact SubS.nil | refine SubS.cons rfl rfl ?_ | refine SubS.cons (congrArg (fun z => some (V.val (Value.int IntKind.i64 z))) (by omega)) rfl ?_ | refine SubS.cons (congrArg (fun z => some (V.val (Value.bool z))) (by assumption)) rfl ?_)); (case hh => repeat (first | exact SubH.nil | refine SubH.cons rfl rfl rfl ?_)))
        omega
      · have hb : x = 90 := by have := of_decide_eq_false hb; omega
        (repeat (first | refine VCode.seq ?_ | refine VCode.region rfl ?_ | refine VCode.exit ?_))
        refine VOps.pure rfl Try.func8 rfl (by kernel_rfl) rfl rfl rfl rfl rfl rfl rfl (wakes_v) ?_
        (repeat (first | ((with_reducible refine VOps.same ?_); (first | (refine VOps.nil ?_; try dsimp only [VThen, VBlock]) | refine VOps.vp (by rfl) (by kernel_rfl) (by rfl) (VPure.assign rfl rfl) ?_))))
        refine VCode.retD rfl rfl (.tmp rfl .nil) ?_
        rfl
-- LAW CloseHolds holds_law agg:open_net open_u16s open_u16s
theorem holds_law (n : Net) (g : goodN n) (l : List Int) (gl : (∀ a ∈ l, (Lit.int .u16 a).wf = true) ∧ l.length * 2 ≤ reachBytes) (more : List Int) (gm : (∀ a ∈ more, (Lit.int .u16 a).wf = true) ∧ more.length * 2 ≤ reachBytes) : VCalls Try.prog 4 [.agg ((encNet n).map D.toV), .sl 1 (l.map fun k => [.val (.int .u16 k)]), .sl 1 (more.map fun k => [.val (.int .u16 k)])] [] 0 (Gives (.val (.bool true))) :=
  have h : reachBytes < 140737488355328 := reachBytes_lt
  holds_v n l more (by have := g.1.2; omega) (by have := gl.2; omega) (by have := gm.2; omega) (fun k hk => by have := Go.bounds_u16 (gl.1 k hk); omega) (fun k hk => by have := Go.bounds_u16 (gm.1 k hk); omega)
end Go.Proofs.Ytbpjlpokmnmmmaa.V

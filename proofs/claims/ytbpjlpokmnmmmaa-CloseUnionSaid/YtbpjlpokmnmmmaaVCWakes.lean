/- close: wakes. -/
import Derived.Test.YtbpjlpokmnmmmaaVLabels
set_option linter.unusedVariables false
set_option linter.unusedSimpArgs false
namespace Go.Proofs.Ytbpjlpokmnmmmaa.V
open Go Go.RowKit Go.Proofs.Ytbpjlpokmnmmmaa.CG
theorem VOps.vsays {P : Program} {n : Nat} {cx : Cx} {ops : Array Oper} {K : St → Prop} {E : List PanicEntry → St → Prop} {i : Nat} {rest : List Oper} {s : List (Nat × V)} {h : Heap} {x dr : Nat} {m : List Nat} (d : Nat) {v : V} (v' : V) (hd : lk s d = some v) (hv : ∀ (R : Addr → Value → Prop) (gv : Nat → Option Value) (y : Nat) (u : Value), VRep R gv y v u → VRep R gv y v' u) (H : VOps P n cx dr m ops K E i rest ⟨(d, v') :: s, h, x⟩) : VOps P n cx dr m ops K E i rest ⟨s, h, x⟩ := fun h1 h2 g a w r =>
  H h1 h2 g a w ⟨r.h, r.size, r.defers, fun e u hu => by
    by_cases he : d = e
    · subst he
      rw [show lk ((d, v') :: s) d = some v' from lk_same _ _ _] at hu
      obtain rfl := Option.some.inj hu
      exact hv _ _ _ _ (r.s d _ hd)
    · rw [show lk ((d, v') :: s) e = lk s e from lk_other _ _ he] at hu
      exact r.s e u hu⟩
def wnet : Net := [[(-1, 2)], [], [(3, 0), (1, 1), (3, 1)]]
theorem wnet_nil {R : Addr → Value → Prop} {gv : Nat → Option Value} {y : Nat} {u : Value} {a b : D} (h : VRep R gv y (.sl 1 [[a], [.val (.slice none 0 0)], [b]]) u) : VRep R gv y (.sl 1 [[a], [.sl 2 []], [b]]) u := by
  cases h with
  | sl _ _ _ h =>
    cases h with
    | sl _ _ ad c f h1 h2 h3 h4 h5 =>
      refine .sl _ _ _ (.sl 1 [[a], [.sl 2 []], [b]] ad c f h1 h2 (by intro row hr; simp at hr; rcases hr with rfl | rfl | rfl <;> rfl) (fun i j d hd => ?_) (fun i j d hd => ?_))
      · match i, j, hd with
        | 0, 0, hd => exact h4 0 0 a rfl
        | 1, 0, hd => exact h4 1 0 _ rfl
        | 2, 0, hd => exact h4 2 0 b rfl
        | 0, j + 1, hd => simp at hd
        | 1, j + 1, hd => simp at hd
        | 2, j + 1, hd => simp at hd
        | i + 3, j, hd => simp at hd
      · match i, j, hd with
        | 0, 0, hd => obtain rfl := Option.some.inj hd; exact h5 0 0 a rfl
        | 1, 0, hd =>
          obtain rfl := Option.some.inj hd
          have := h5 1 0 _ rfl
          generalize f 1 0 = m at this
          cases this
          exact .nil _ _ _
        | 2, 0, hd => obtain rfl := Option.some.inj hd; exact h5 2 0 b rfl
        | 0, j + 1, hd => simp at hd
        | 1, j + 1, hd => simp at hd
        | 2, j + 1, hd => simp at hd
        | i + 3, j, hd => simp at hd
theorem w_may : mayB wnet [0] = true ∧ mayB wnet [0, 2] = true ∧ mayB wnet [3] = false ∧ mayB wnet [0, 1, 2] = true := by decide +kernel
theorem ms_313 : ([3, 1, 3] : List Nat).mergeSort (fun x y => decide (x ≤ y)) = [1, 3, 3] := by
  simp [List.mergeSort, List.MergeSort.Internal.splitInTwo, List.splitAt, List.splitAt.go, List.merge]
theorem w_of : ofR wnet [0] = .tup [.sl 1 ([0, 2].map encN), .val (.int .i64 0)] := by
  unfold ofR
  rw [w_may.1, if_pos rfl, if_pos rfl, show clos wnet (nats [0]) = [0, 2] from by
    unfold clos
    rw [show bfo (adj wnet) (wnet.length + 1) (starts (nats [0]) wnet.length).1 (starts (nats [0]) wnet.length).2 [] = some [0, 2] from by decide +kernel]
    exact List.mergeSort_of_pairwise (by decide)]
theorem w_of3 : ofR wnet [3] = .tup [.sl 1 [], .val (.int .i64 1)] := by
  unfold ofR
  rw [w_may.2.2.1]; rfl
theorem w_step : stepR wnet [0, 2] 3 = .tup [.sl 1 ([0, 1, 2].map encN), .val (.int .i64 0)] := by
  unfold stepR
  rw [show stepOk wnet [0, 2] 3 = true from by decide +kernel, if_pos rfl, if_pos rfl, show clos wnet (nats (stepTo wnet [0, 2] 3)) = [0, 1, 2] from by
    unfold clos
    rw [show bfo (adj wnet) (wnet.length + 1) (starts (nats (stepTo wnet [0, 2] 3)) wnet.length).1 (starts (nats (stepTo wnet [0, 2] 3)) wnet.length).2 [] = some [0, 1, 2] from by decide +kernel]
    exact List.mergeSort_of_pairwise (by decide)]
theorem w_labels : labelsR wnet [0, 2] = .tup [.sl 1 ([1, 3].map encZ), .val (.int .i64 0)] := by
  unfold labelsR
  rw [w_may.2.1, if_pos rfl, if_pos rfl, show labels wnet [0, 2] = [1, 3] from by
    unfold labels
    rw [show labsOf wnet [0, 2] = [3, 1, 3] from by decide +kernel, ms_313]
    decide +kernel]
set_option maxHeartbeats 4000000 in
theorem wakes_v : VCalls Try.prog 8 [] [] 0 (Gives (.val (.bool true))) := by
  refine VCalls.enterD (n := 82) Try.func8 rfl rfl (by simp) rfl (fun cx hcx => ?_)
  (repeat (first | ((with_reducible refine VOps.same ?_); (first | (refine VOps.nil ?_; try dsimp only [VThen, VBlock]) | refine VOps.vp (by rfl) (by kernel_rfl) (by rfl) (VPure.assign rfl rfl) ?_ | refine VOps.vp (by rfl) (by kernel_rfl) (by rfl) (VPure.buildC rfl (by kernel_rfl) rfl (by rfl)) ?_ | refine VOps.one rfl rfl (by kernel_rfl) rfl (by rfl) (by decide) (by decide) rfl (by rfl) (by rfl) ?_)) | refine VCode.seq ?_ | refine VCode.region rfl ?_))
  refine VOps.lit (rows := [encE (3, 0), encE (1, 1), encE (3, 1)]) rfl rfl (by kernel_rfl) rfl (by kernel_rfl) (by rfl) (by decide) (by decide) rfl (by rfl) (by rfl) (by rfl) (by rfl) ?_
  refine VOps.freeze (id := 0) rfl ?_
  refine VOps.freeze (id := 1) rfl ?_
  refine VOps.lit (rows := [encL [(-1, 2)], [.val (.slice none 0 0)], encL [(3, 0), (1, 1), (3, 1)]]) rfl rfl (by kernel_rfl) rfl (by kernel_rfl) (by rfl) (by decide) (by decide) rfl (by rfl) (by rfl) (by rfl) (by rfl) ?_
  refine VOps.freeze (id := 2) rfl ?_
  refine VOps.vsays 16 (.sl 1 (wnet.map encL)) rfl (fun R gv y u h => wnet_nil h) ?_
  (repeat (first | ((with_reducible refine VOps.same ?_); (first | (refine VOps.nil ?_; try dsimp only [VThen, VBlock]) | refine VOps.vv (by rfl) (by kernel_rfl) (by rfl) (VLoad.boxA rfl rfl rfl (by rfl) (Nat.le_of_ble_eq_true (by rfl)) (by decide)) ?_ | refine VOps.vp (by rfl) (by kernel_rfl) (by rfl) (VPure.buildC rfl (by kernel_rfl) rfl (by rfl)) ?_ | refine VOps.alloc rfl rfl (by kernel_rfl) rfl (by kernel_rfl) rfl ?_ | refine VOps.store rfl rfl (by kernel_rfl) rfl rfl rfl rfl rfl rfl (Nat.le_of_ble_eq_true (by rfl)) rfl ?_ | refine VOps.one rfl rfl (by kernel_rfl) rfl (by rfl) (by decide) (by decide) rfl (by rfl) (by rfl) ?_)) | refine VCode.seq ?_ | refine VCode.region rfl ?_))
  refine VOps.freeze (id := 4) rfl ?_
  refine VOps.gives rfl Try.func10 rfl (by kernel_rfl) rfl rfl rfl rfl rfl rfl rfl rfl (by have := of_v wnet [0] (by decide) (by decide) (by decide); rw [w_of] at this; exact this) ?_
  (repeat (first | ((with_reducible refine VOps.same ?_); (first | (refine VOps.nil ?_; try dsimp only [VThen, VBlock]) | refine VOps.vp (by rfl) (by kernel_rfl) (by rfl) (VPure.move rfl rfl) ?_ | refine VOps.vp (by rfl) (by kernel_rfl) (by rfl) (VPure.assign rfl rfl) ?_ | refine VOps.vp (by rfl) (by kernel_rfl) (by rfl) (VPure.extract rfl rfl rfl) ?_ | refine VOps.vv (by rfl) (by kernel_rfl) (by rfl) (VLoad.boxA rfl rfl rfl (by rfl) (Nat.le_of_ble_eq_true (by rfl)) (by decide)) ?_)) | refine VCode.seq ?_ | refine VCode.region rfl ?_))
  refine VOps.gives rfl Try.func11 rfl (by kernel_rfl) rfl rfl rfl rfl rfl rfl rfl rfl (by have := step_v wnet [0, 2] 3 (by decide) (by decide) (by decide); rw [w_step] at this; exact this) ?_
  (repeat (first | ((with_reducible refine VOps.same ?_); (first | (refine VOps.nil ?_; try dsimp only [VThen, VBlock]) | refine VOps.vp (by rfl) (by kernel_rfl) (by rfl) (VPure.move rfl rfl) ?_ | refine VOps.vp (by rfl) (by kernel_rfl) (by rfl) (VPure.assign rfl rfl) ?_ | refine VOps.vp (by rfl) (by kernel_rfl) (by rfl) (VPure.extract rfl rfl rfl) ?_ | refine VOps.vv (by rfl) (by kernel_rfl) (by rfl) (VLoad.boxA rfl rfl rfl (by rfl) (Nat.le_of_ble_eq_true (by rfl)) (by decide)) ?_)) | refine VCode.seq ?_ | refine VCode.region rfl ?_))
  refine VOps.gives rfl Try.func12 rfl (by kernel_rfl) rfl rfl rfl rfl rfl rfl rfl rfl (by have := labels_v wnet [0, 2] (by decide) (by decide) (by decide); rw [w_labels] at this; exact this) ?_
  (repeat (first | ((with_reducible refine VOps.same ?_); (first | (refine VOps.nil ?_; try dsimp only [VThen, VBlock]) | refine VOps.vp (by rfl) (by kernel_rfl) (by rfl) (VPure.move rfl rfl) ?_ | refine VOps.vp (by rfl) (by kernel_rfl) (by rfl) (VPure.assign rfl rfl) ?_ | refine VOps.vp (by rfl) (by kernel_rfl) (by rfl) (VPure.extract rfl rfl rfl) ?_ | refine VOps.vv (by rfl) (by kernel_rfl) (by rfl) (VLoad.boxA rfl rfl rfl (by rfl) (Nat.le_of_ble_eq_true (by rfl)) (by decide)) ?_ | refine VOps.one rfl rfl (by kernel_rfl) rfl (by rfl) (by decide) (by decide) rfl (by rfl) (by rfl) ?_)) | refine VCode.seq ?_ | refine VCode.region rfl ?_))
  refine VOps.freeze (id := 5) rfl ?_
  refine VOps.gives rfl Try.func10 rfl (by kernel_rfl) rfl rfl rfl rfl rfl rfl rfl rfl (by have := of_v wnet [3] (by decide) (by decide) (by decide); rw [w_of3] at this; exact this) ?_
  (repeat (first | ((with_reducible refine VOps.same ?_); (first | (refine VOps.nil ?_; try dsimp only [VThen, VBlock]) | refine VOps.vp (by rfl) (by kernel_rfl) (by rfl) (VPure.move rfl rfl) ?_ | refine VOps.vp (by rfl) (by kernel_rfl) (by rfl) (VPure.assign rfl rfl) ?_ | refine VOps.vp (by rfl) (by kernel_rfl) (by rfl) (VPure.extract rfl rfl rfl) ?_ | refine VOps.vp (by rfl) (by kernel_rfl) (by rfl) (VPure.eqi rfl rfl rfl) ?_)) | refine VCode.seq ?_ | refine VCode.region rfl ?_))
  refine VOps.lit (rows := [encZ 0, encZ 2]) rfl rfl (by kernel_rfl) rfl (by kernel_rfl) (by rfl) (by decide) (by decide) rfl (by rfl) (by rfl) (by rfl) (by rfl) ?_
  refine VOps.pure rfl Try.func16 rfl (by kernel_rfl) rfl rfl rfl rfl rfl rfl rfl (ints_v [0, 2] [0, 2] (by decide)) ?_
  (repeat (first | ((with_reducible refine VOps.same ?_); (first | refine VOps.vp (by rfl) (by kernel_rfl) (by rfl) (VPure.move rfl rfl) ?_ | refine VOps.vp (by rfl) (by kernel_rfl) (by rfl) (VPure.eqi rfl rfl rfl) ?_ | refine VOps.vp (by rfl) (by kernel_rfl) (by rfl) (VPure.pick_t rfl rfl rfl) ?_))))
  refine VOps.lit (rows := [encZ 0, encZ 1, encZ 2]) rfl rfl (by kernel_rfl) rfl (by kernel_rfl) (by rfl) (by decide) (by decide) rfl (by rfl) (by rfl) (by rfl) (by rfl) ?_
  refine VOps.pure rfl Try.func16 rfl (by kernel_rfl) rfl rfl rfl rfl rfl rfl rfl (ints_v [0, 1, 2] [0, 1, 2] (by decide)) ?_
  (repeat (first | ((with_reducible refine VOps.same ?_); (first | refine VOps.vp (by rfl) (by kernel_rfl) (by rfl) (VPure.move rfl rfl) ?_ | refine VOps.vp (by rfl) (by kernel_rfl) (by rfl) (VPure.eqi rfl rfl rfl) ?_ | refine VOps.vp (by rfl) (by kernel_rfl) (by rfl) (VPure.pick_t rfl rfl rfl) ?_))))
  refine VOps.lit (rows := [encZ 1, encZ 3]) rfl rfl (by kernel_rfl) rfl (by kernel_rfl) (by rfl) (by decide) (by decide) rfl (by rfl) (by rfl) (by rfl) (by rfl) ?_
  refine VOps.pure rfl Try.func16 rfl (by kernel_rfl) rfl rfl rfl rfl rfl rfl rfl (ints_v [1, 3] [1, 3] (by decide)) ?_
  (repeat (first | ((with_reducible refine VOps.same ?_); (first | refine VOps.vp (by rfl) (by kernel_rfl) (by rfl) (VPure.move rfl rfl) ?_ | refine VOps.vv (by rfl) (by kernel_rfl) (by rfl) (VLoad.boxA rfl rfl rfl (by rfl) (Nat.le_of_ble_eq_true (by rfl)) (by decide)) ?_ | refine VOps.vp (by rfl) (by kernel_rfl) (by rfl) (VPure.eqi rfl rfl rfl) ?_ | refine VOps.vp (by rfl) (by kernel_rfl) (by rfl) (VPure.pick_t rfl rfl rfl) ?_))))
  refine VOps.pure rfl Try.func17 rfl (by kernel_rfl) rfl rfl rfl rfl rfl rfl rfl (by have := ends_v wnet [0, 1, 2] (by decide) (by decide) (by decide); rw [show endsB wnet [0, 1, 2] = true from by decide +kernel] at this; exact this) ?_
  (repeat (first | ((with_reducible refine VOps.same ?_); (first | refine VOps.vp (by rfl) (by kernel_rfl) (by rfl) (VPure.move rfl rfl) ?_ | refine VOps.vv (by rfl) (by kernel_rfl) (by rfl) (VLoad.boxA rfl rfl rfl (by rfl) (Nat.le_of_ble_eq_true (by rfl)) (by decide)) ?_ | refine VOps.vp (by rfl) (by kernel_rfl) (by rfl) (VPure.pick_t rfl rfl rfl) ?_))))
  refine VOps.pure rfl Try.func17 rfl (by kernel_rfl) rfl rfl rfl rfl rfl rfl rfl (by have := ends_v wnet [0, 2] (by decide) (by decide) (by decide); rw [show endsB wnet [0, 2] = false from by decide +kernel] at this; exact this) ?_
  (repeat (first | ((with_reducible refine VOps.same ?_); (first | (refine VOps.nil ?_; try dsimp only [VThen, VBlock]) | refine VOps.vp (by rfl) (by kernel_rfl) (by rfl) (VPure.assign rfl rfl) ?_ | refine VOps.vp (by rfl) (by kernel_rfl) (by rfl) (VPure.not rfl rfl) ?_ | refine VOps.vp (by rfl) (by kernel_rfl) (by rfl) (VPure.pick_t rfl rfl rfl) ?_))))
  refine VCode.retD rfl rfl (.tmp rfl .nil) ?_
  rfl
end Go.Proofs.Ytbpjlpokmnmmmaa.V

/- stack: Pop; Edges and Pops of a stack of one's own. -/
import Derived.Test.YtdkgbkmaeeicoaaVSEdge
set_option linter.unusedVariables false
set_option linter.unusedSimpArgs false
-- YtdkgbkmaeeicoaaVC
namespace Go.Proofs.Ytdkgbkmaeeicoaa.V
open Go Go.RowKit
set_option maxHeartbeats 4000000 in
theorem pop_v (l : List Nd) (n q : Int) (hl : ∀ u ∈ l, u.p.length ≤ 1000000) : VCalls Try.prog 13 [.ptr 0 0, .val (.int .i64 n), .val (.int .i64 q)] (stH l) 3 (Leaves (.val (.bool (popB l n q))) (stH' (addPop l n q)) 4) := by
  refine VCalls.enterL (n := 32) Try.func13 rfl rfl (by simp) (fun cx hcx => ?_)
  unfold stH stH'
  (repeat (first | ((with_reducible refine VOps.same ?_); (first | (refine VOps.nil ?_; try dsimp only [VThen, VBlock]) | refine VOps.vp (by rfl) (by kernel_rfl) (by rfl) (VPure.move rfl rfl) ?_ | refine VOps.vp (by rfl) (by kernel_rfl) (by rfl) (VPure.assign rfl rfl) ?_)) | refine VCode.seq ?_ | refine VCode.region rfl ?_))
  refine VOps.pure rfl Try.func23 rfl (by kernel_rfl) rfl rfl rfl rfl rfl rfl rfl (hasr_v l n) ?_
  (repeat (first | ((with_reducible refine VOps.same ?_); (first | (refine VOps.nil ?_; try dsimp only [VThen, VBlock]) | refine VOps.vp (by rfl) (by kernel_rfl) (by rfl) (VPure.not rfl rfl) ?_))))
  refine VCode.cond rfl (fun h1 => ?_) (fun h1 => ?_)
  · have h1 := bnot_t h1
    have e1 : popB l n q = false := by unfold popB; rw [h1]; rfl
    have e2 : addPop l n q = l := by unfold addPop; rw [h1]; rfl
    (repeat (first | ((with_reducible refine VOps.same ?_); (first | (refine VOps.nil ?_; try dsimp only [VThen, VBlock]) | refine VOps.vp (by rfl) (by kernel_rfl) (by rfl) (VPure.assign rfl rfl) ?_)) | refine VCode.seq ?_ | refine VCode.region rfl ?_))
    refine VCode.again (id := 1) rfl ?_
    refine VCode.ret ?_
    rw [e1, e2]
    (show Less cx _ _; refine Less.mkx (l := [0, 1, 2, 3]) (st' := ⟨[(6, .val (.bool false))], [(0, .cells 57 [.ref 3, .ref 2]), (3, .nest 61 2 (l.map rowN) none), (2, .map (knownE l))], 4⟩) 3 hcx (Nat.le_of_ble_eq_true rfl) (by decide) ?ss ?hh rfl (by decide) rfl ⟨_, (.tmp rfl .nil), rfl, rfl, rfl⟩; (case ss => repeat (first | exact SubS.nil | refine SubS.cons rfl rfl ?_ | refine SubS.cons (congrArg (fun z => some (V.val (Value.int IntKind.i64 z))) (by omega)) rfl ?_ | refine SubS.cons (congrArg (fun z => some (V.val (Value.bool z))) (by assumption)) rfl ?_)); (case hh => repeat (first | exact SubH.nil | refine SubH.cons rfl rfl rfl ?_)))
  · have h1 := bnot_f h1
    obtain ⟨k, u, rfl, hu, hk⟩ := hasB_some h1
    have e1 : popB l k q = !(u.p.any fun y => decide (q = y)) := by unfold popB; rw [h1, (of_some hu).2]; rfl
    have e2 : addPop l k q = l.set k (withP q u) := by unfold addPop; rw [h1, if_pos rfl, atNd_some hu]
    (repeat (first | refine VCode.seq ?_ | refine VCode.skip ?_))
    refine VCode.focus (id := 1) k 1 rfl (rows_map (f := rowN) hu rfl) ?_
    refine VCode.thenTo ⟨[(6, .val (.bool (!(u.p.any fun y => decide (q = y)))))], [(0, .cells 57 [.ref 3, .ref 2]), (3, .nest 61 2 (l.map rowN) (some (k, 1, 4))), (4, .arr 3 1 ((addZ u.p q).map encZ)), (2, .map (knownE l))], 5⟩ ?_ ?_
    · refine VCode.drawAny [3, 4, 5] (by kernel_rfl) rfl ?_
      refine VAny.pureI (i := 0) rfl rfl (by kernel_rfl) rfl (VPure.move rfl rfl) ?_
      refine VAny.pureI (i := 1) rfl rfl (by kernel_rfl) rfl (VPure.nilCheck_ptr rfl rfl rfl) ?_
      refine VAny.pureI (i := 2) rfl rfl (by kernel_rfl) rfl (VPure.field_ptr rfl rfl rfl) ?_
      refine VAny.loadI (i := 3) rfl rfl (by kernel_rfl) rfl (VLoad.box1 rfl rfl rfl rfl (by rfl) (by decide)) ?_
      refine VAny.pureI (i := 4) rfl rfl (by kernel_rfl) rfl (VPure.move rfl rfl) ?_
      refine VAny.pureI (i := 5) rfl rfl (by kernel_rfl) rfl (VPure.move rfl rfl) ?_
      refine VAny.pureI (i := 6) rfl rfl (by kernel_rfl) rfl (VPure.nilCheck_ptr rfl rfl rfl) ?_
      refine VAny.pureI (i := 7) rfl rfl (by kernel_rfl) rfl (VPure.field_ptr rfl rfl rfl) ?_
      refine VAny.loadI (i := 8) rfl rfl (by kernel_rfl) rfl (VLoad.box1 rfl rfl rfl rfl (by rfl) (by decide)) ?_
      refine VAny.pureI (i := 9) rfl rfl (by kernel_rfl) rfl (VPure.move rfl rfl) ?_
      refine VAny.pureI (i := 10) rfl rfl (by kernel_rfl) rfl (VPure.idx_nest rfl rfl rfl rfl (by omega) (by rw [List.length_map]; omega)) ?_
      refine VAny.pureI (i := 11) rfl rfl (by kernel_rfl) rfl (VPure.field_nest rfl rfl rfl (by rw [List.length_map]; omega)) ?_
      refine VAny.pureI (i := 13) rfl rfl (by kernel_rfl) rfl (VPure.move rfl rfl) ?_
      refine VAny.movesI (is := [12]) (by kernel_rfl) (by simp) rfl (all1 ?_)
      · refine VMv.load rfl rfl rfl (VLoad.hole rfl rfl rfl (by rfl) ⟨by rw [List.length_map]; exact hk, by decide⟩ rfl (by decide)) ?_
        refine VAny.movesI (is := [14]) (by kernel_rfl) (by simp) rfl (all1 ?_)
        · (refine VMv.callL (ch := [(0, .arr 3 1 (u.p.map encZ))]) [3] rfl rfl Try.func26 rfl rfl rfl rfl rfl rfl ?hh (by decide) rfl rfl rfl (addedI_v u.p q (hl u (List.mem_of_getElem? hu))) rfl (by rfl) rfl ?_; (case hh => repeat (first | exact SubH.nil | refine SubH.cons rfl rfl rfl ?_)))
          refine VAny.pureI (i := 15) rfl rfl (by kernel_rfl) rfl (VPure.move rfl rfl) ?_
          refine VAny.pureI (i := 16) rfl rfl (by kernel_rfl) rfl (VPure.extract rfl rfl rfl) ?_
          refine VAny.pureI (i := 17) rfl rfl (by kernel_rfl) rfl (VPure.extract rfl rfl rfl) ?_
          refine VAny.pureI (i := 18) rfl rfl (by kernel_rfl) rfl (VPure.idx_nest rfl rfl rfl rfl (by omega) (by rw [List.length_map]; omega)) ?_
          refine VAny.pureI (i := 19) rfl rfl (by kernel_rfl) rfl (VPure.field_nest rfl rfl rfl (by rw [List.length_map]; omega)) ?_
          refine VAny.movesI (is := [20]) (by kernel_rfl) (by simp) rfl (all1 ?_)
          · refine VMv.store_nest rfl rfl rfl rfl rfl rfl rfl rfl (by rfl) (⟨by rw [List.length_map]; exact hk, by decide⟩) (.inl ⟨_, rfl⟩) ?_
            refine VAny.pureI (i := 21) rfl rfl (by kernel_rfl) rfl (VPure.assign rfl rfl) ?_
            refine VAny.done ?_
            (refine Less.mkx (l := [0, 1, 2, 4, 5]) 3 hcx (by exact Nat.le_of_ble_eq_true rfl) (by decide) ?ss ?hh rfl (by decide) rfl rfl; (case ss => repeat (first | exact SubS.nil | refine SubS.cons rfl rfl ?_ | refine SubS.cons (congrArg (fun z => some (V.val (Value.int IntKind.i64 z))) (by omega)) rfl ?_ | refine SubS.cons (congrArg (fun z => some (V.val (Value.bool z))) (by assumption)) rfl ?_)); (case hh => repeat (first | exact SubH.nil | refine SubH.cons rfl rfl rfl ?_)))
    (repeat (first | ((with_reducible refine VOps.same ?_); (first | (refine VOps.nil ?_; try dsimp only [VThen, VBlock]) | refine VOps.vp (by rfl) (by kernel_rfl) (by rfl) (VPure.move rfl rfl) ?_ | refine VOps.vp (by rfl) (by kernel_rfl) (by rfl) (VPure.assign rfl rfl) ?_)) | refine VCode.seq ?_ | refine VCode.region rfl ?_))
    refine VCode.unfocus (id := 3) rfl rfl ⟨by rw [List.length_map]; exact hk, by decide⟩ (putN_map (u' := withP q u) hu rfl) ?_
    refine VCode.ret ?_
    rw [e1, e2, known_set (u' := withP q u) hu rfl rfl]
    (show Less cx _ _; refine Less.mkx (l := [0, 1, 2, 5]) (st' := ⟨[(6, .val (.bool (!(u.p.any fun y => decide (q = y)))))], [(0, .cells 57 [.ref 3, .ref 2]), (3, .nest 61 2 ((l.set k (withP q u)).map rowN) none), (2, .map (knownE l))], 4⟩) 3 hcx (Nat.le_of_ble_eq_true rfl) (by decide) ?ss ?hh rfl (by decide) rfl ⟨_, (.tmp rfl .nil), rfl, rfl, rfl⟩; (case ss => repeat (first | exact SubS.nil | refine SubS.cons rfl rfl ?_ | refine SubS.cons (congrArg (fun z => some (V.val (Value.int IntKind.i64 z))) (by omega)) rfl ?_ | refine SubS.cons (congrArg (fun z => some (V.val (Value.bool z))) (by assumption)) rfl ?_)); (case hh => repeat (first | exact SubH.nil | refine SubH.cons rfl rfl rfl ?_)))
set_option maxHeartbeats 4000000 in
theorem edges_o (l : List Nd) (n : Int) (hl : ∀ u ∈ l, u.e.length ≤ 1000000) : VCalls Try.prog 20 [.ptr 0 0, .val (.int .i64 n)] (stH l) 3 (Leaves (.sl 2 ((edgesOf l n).map encP)) (stH' l) 4) := by
  refine VCalls.enterL (n := 18) Try.func20 rfl rfl (by simp) (fun cx hcx => ?_)
  unfold stH stH'
  (repeat (first | ((with_reducible refine VOps.same ?_); (first | (refine VOps.nil ?_; try dsimp only [VThen, VBlock]) | refine VOps.vp (by rfl) (by kernel_rfl) (by rfl) (VPure.move rfl rfl) ?_ | refine VOps.vp (by rfl) (by kernel_rfl) (by rfl) (VPure.assign rfl rfl) ?_)) | refine VCode.seq ?_ | refine VCode.region rfl ?_))
  refine VOps.pure rfl Try.func23 rfl (by kernel_rfl) rfl rfl rfl rfl rfl rfl rfl (hasr_v l n) ?_
  (repeat (first | ((with_reducible refine VOps.same ?_); (first | (refine VOps.nil ?_; try dsimp only [VThen, VBlock]) | refine VOps.vp (by rfl) (by kernel_rfl) (by rfl) (VPure.not rfl rfl) ?_))))
  refine VCode.cond rfl (fun h => ?_) (fun h => ?_)
  · have e := (hasB_none (bnot_t h)).1
    (repeat (first | ((with_reducible refine VOps.same ?_); (first | (refine VOps.nil ?_; try dsimp only [VThen, VBlock]) | refine VOps.vp (by rfl) (by kernel_rfl) (by rfl) (VPure.assign rfl rfl) ?_)) | refine VCode.seq ?_ | refine VCode.region rfl ?_))
    refine VCode.nilS 4 2 rfl ?_
    refine VCode.again (id := 1) rfl ?_
    refine VCode.ret ?_
    rw [e]
    (show Less cx _ _; refine Less.mkx (l := [0, 1, 2, 3]) (st' := ⟨[(4, .sl 2 [])], [(0, .cells 57 [.ref 3, .ref 2]), (3, .nest 61 2 (l.map rowN) none), (2, .map (knownE l))], 4⟩) 3 hcx (Nat.le_of_ble_eq_true rfl) (by decide) ?ss ?hh rfl (by decide) rfl ⟨_, (.tmp rfl .nil), rfl, rfl, rfl⟩; (case ss => repeat (first | exact SubS.nil | refine SubS.cons rfl rfl ?_ | refine SubS.cons (congrArg (fun z => some (V.val (Value.int IntKind.i64 z))) (by omega)) rfl ?_ | refine SubS.cons (congrArg (fun z => some (V.val (Value.bool z))) (by assumption)) rfl ?_)); (case hh => repeat (first | exact SubH.nil | refine SubH.cons rfl rfl rfl ?_)))
  · obtain ⟨k, u, rfl, hu, hk⟩ := hasB_some (bnot_f h)
    have e := (of_some hu).1
    refine VCode.focus (id := 1) k 0 rfl (rows_map (f := rowN) hu rfl) ?_
    (repeat (first | ((with_reducible refine VOps.same ?_); (first | refine VOps.vp (by rfl) (by kernel_rfl) (by rfl) (VPure.move rfl rfl) ?_ | refine VOps.vp (by rfl) (by kernel_rfl) (by rfl) (VPure.field_ptr rfl rfl rfl) ?_ | refine VOps.vv (by rfl) (by kernel_rfl) (by rfl) (VLoad.box1 rfl rfl rfl rfl (by rfl) (by decide)) ?_ | refine VOps.vp (by rfl) (by kernel_rfl) (by rfl) (VPure.nilCheck_ptr rfl rfl rfl) ?_ | (refine VOps.vp (by rfl) (by kernel_rfl) (by rfl) (VPure.idx_nest rfl rfl rfl rfl ?b1 ?b2) ?_; (case b1 => (first | omega | (simp only [List.length_map, List.length_append, List.length_cons, List.length_nil] at *; omega) | (simp; omega))); (case b2 => (first | omega | (simp only [List.length_map, List.length_append, List.length_cons, List.length_nil] at *; omega) | (simp; omega)))) | (refine VOps.vp (by rfl) (by kernel_rfl) (by rfl) (VPure.field_nest rfl rfl rfl ?b1) ?_; (case b1 => (first | omega | (simp only [List.length_map, List.length_append, List.length_cons, List.length_nil] at *; omega) | (simp; omega)))) | (refine VOps.vv (by rfl) (by kernel_rfl) (by rfl) (VLoad.hole rfl rfl rfl (by rfl) ?b1 rfl (by decide)) ?_; (case b1 => exact ⟨by (first | omega | (simp only [List.length_map, List.length_append, List.length_cons, List.length_nil] at *; omega) | (simp; omega)), by decide⟩)))) | refine VCode.seq ?_ | refine VCode.region rfl ?_ | refine VCode.skip ?_))
    (refine VOps.callL (ch := [(0, .arr 52 2 (u.e.map encP))]) [3] rfl Try.func28 rfl (by kernel_rfl) rfl rfl rfl rfl ?hh (by decide) rfl rfl rfl (cloneE_o u.e (hl u (List.mem_of_getElem? hu))) rfl (by rfl) rfl ?_; (case hh => repeat (first | exact SubH.nil | refine SubH.cons rfl rfl rfl ?_)))
    (repeat (first | ((with_reducible refine VOps.same ?_); (first | (refine VOps.nil ?_; try dsimp only [VThen, VBlock]) | refine VOps.vp (by rfl) (by kernel_rfl) (by rfl) (VPure.assign rfl rfl) ?_))))
    refine VCode.unfocus (id := 4) rfl rfl ⟨by rw [List.length_map]; exact hk, by decide⟩ (putN_map (u' := u) hu rfl) ?_
    refine VCode.ret ?_
    rw [e, set_same hu]
    (show Less cx _ _; refine Less.mkx (l := [0, 1, 2, 5]) (st' := ⟨[(4, .sl 2 (u.e.map encP))], [(0, .cells 57 [.ref 3, .ref 2]), (3, .nest 61 2 (l.map rowN) none), (2, .map (knownE l))], 4⟩) 3 hcx (Nat.le_of_ble_eq_true rfl) (by decide) ?ss ?hh rfl (by decide) rfl ⟨_, (.tmp rfl .nil), rfl, rfl, rfl⟩; (case ss => repeat (first | exact SubS.nil | refine SubS.cons rfl rfl ?_ | refine SubS.cons (congrArg (fun z => some (V.val (Value.int IntKind.i64 z))) (by omega)) rfl ?_ | refine SubS.cons (congrArg (fun z => some (V.val (Value.bool z))) (by assumption)) rfl ?_)); (case hh => repeat (first | exact SubH.nil | refine SubH.cons rfl rfl rfl ?_)))
set_option maxHeartbeats 4000000 in
theorem pops_o (l : List Nd) (n : Int) (hl : ∀ u ∈ l, u.p.length ≤ 1000000) : VCalls Try.prog 21 [.ptr 0 0, .val (.int .i64 n)] (stH l) 3 (Leaves (.sl 1 ((popsOf l n).map encZ)) (stH' l) 4) := by
  refine VCalls.enterL (n := 18) Try.func21 rfl rfl (by simp) (fun cx hcx => ?_)
  unfold stH stH'
  (repeat (first | ((with_reducible refine VOps.same ?_); (first | (refine VOps.nil ?_; try dsimp only [VThen, VBlock]) | refine VOps.vp (by rfl) (by kernel_rfl) (by rfl) (VPure.move rfl rfl) ?_ | refine VOps.vp (by rfl) (by kernel_rfl) (by rfl) (VPure.assign rfl rfl) ?_)) | refine VCode.seq ?_ | refine VCode.region rfl ?_))
  refine VOps.pure rfl Try.func23 rfl (by kernel_rfl) rfl rfl rfl rfl rfl rfl rfl (hasr_v l n) ?_
  (repeat (first | ((with_reducible refine VOps.same ?_); (first | (refine VOps.nil ?_; try dsimp only [VThen, VBlock]) | refine VOps.vp (by rfl) (by kernel_rfl) (by rfl) (VPure.not rfl rfl) ?_))))
  refine VCode.cond rfl (fun h => ?_) (fun h => ?_)
  · have e := (hasB_none (bnot_t h)).2
    (repeat (first | ((with_reducible refine VOps.same ?_); (first | (refine VOps.nil ?_; try dsimp only [VThen, VBlock]) | refine VOps.vp (by rfl) (by kernel_rfl) (by rfl) (VPure.assign rfl rfl) ?_)) | refine VCode.seq ?_ | refine VCode.region rfl ?_))
    refine VCode.nilS 4 1 rfl ?_
    refine VCode.again (id := 1) rfl ?_
    refine VCode.ret ?_
    rw [e]
    (show Less cx _ _; refine Less.mkx (l := [0, 1, 2, 3]) (st' := ⟨[(4, .sl 1 [])], [(0, .cells 57 [.ref 3, .ref 2]), (3, .nest 61 2 (l.map rowN) none), (2, .map (knownE l))], 4⟩) 3 hcx (Nat.le_of_ble_eq_true rfl) (by decide) ?ss ?hh rfl (by decide) rfl ⟨_, (.tmp rfl .nil), rfl, rfl, rfl⟩; (case ss => repeat (first | exact SubS.nil | refine SubS.cons rfl rfl ?_ | refine SubS.cons (congrArg (fun z => some (V.val (Value.int IntKind.i64 z))) (by omega)) rfl ?_ | refine SubS.cons (congrArg (fun z => some (V.val (Value.bool z))) (by assumption)) rfl ?_)); (case hh => repeat (first | exact SubH.nil | refine SubH.cons rfl rfl rfl ?_)))
  · obtain ⟨k, u, rfl, hu, hk⟩ := hasB_some (bnot_f h)
    have e := (of_some hu).2
    refine VCode.focus (id := 1) k 1 rfl (rows_map (f := rowN) hu rfl) ?_
    (repeat (first | ((with_reducible refine VOps.same ?_); (first | refine VOps.vp (by rfl) (by kernel_rfl) (by rfl) (VPure.move rfl rfl) ?_ | refine VOps.vp (by rfl) (by kernel_rfl) (by rfl) (VPure.field_ptr rfl rfl rfl) ?_ | refine VOps.vv (by rfl) (by kernel_rfl) (by rfl) (VLoad.box1 rfl rfl rfl rfl (by rfl) (by decide)) ?_ | refine VOps.vp (by rfl) (by kernel_rfl) (by rfl) (VPure.nilCheck_ptr rfl rfl rfl) ?_ | (refine VOps.vp (by rfl) (by kernel_rfl) (by rfl) (VPure.idx_nest rfl rfl rfl rfl ?b1 ?b2) ?_; (case b1 => (first | omega | (simp only [List.length_map, List.length_append, List.length_cons, List.length_nil] at *; omega) | (simp; omega))); (case b2 => (first | omega | (simp only [List.length_map, List.length_append, List.length_cons, List.length_nil] at *; omega) | (simp; omega)))) | (refine VOps.vp (by rfl) (by kernel_rfl) (by rfl) (VPure.field_nest rfl rfl rfl ?b1) ?_; (case b1 => (first | omega | (simp only [List.length_map, List.length_append, List.length_cons, List.length_nil] at *; omega) | (simp; omega)))) | (refine VOps.vv (by rfl) (by kernel_rfl) (by rfl) (VLoad.hole rfl rfl rfl (by rfl) ?b1 rfl (by decide)) ?_; (case b1 => exact ⟨by (first | omega | (simp only [List.length_map, List.length_append, List.length_cons, List.length_nil] at *; omega) | (simp; omega)), by decide⟩)))) | refine VCode.seq ?_ | refine VCode.region rfl ?_ | refine VCode.skip ?_))
    (refine VOps.callL (ch := [(0, .arr 3 1 (u.p.map encZ))]) [3] rfl Try.func29 rfl (by kernel_rfl) rfl rfl rfl rfl ?hh (by decide) rfl rfl rfl (cloneI_o u.p (hl u (List.mem_of_getElem? hu))) rfl (by rfl) rfl ?_; (case hh => repeat (first | exact SubH.nil | refine SubH.cons rfl rfl rfl ?_)))
    (repeat (first | ((with_reducible refine VOps.same ?_); (first | (refine VOps.nil ?_; try dsimp only [VThen, VBlock]) | refine VOps.vp (by rfl) (by kernel_rfl) (by rfl) (VPure.assign rfl rfl) ?_))))
    refine VCode.unfocus (id := 4) rfl rfl ⟨by rw [List.length_map]; exact hk, by decide⟩ (putN_map (u' := u) hu rfl) ?_
    refine VCode.ret ?_
    rw [e, set_same hu]
    (show Less cx _ _; refine Less.mkx (l := [0, 1, 2, 5]) (st' := ⟨[(4, .sl 1 (u.p.map encZ))], [(0, .cells 57 [.ref 3, .ref 2]), (3, .nest 61 2 (l.map rowN) none), (2, .map (knownE l))], 4⟩) 3 hcx (Nat.le_of_ble_eq_true rfl) (by decide) ?ss ?hh rfl (by decide) rfl ⟨_, (.tmp rfl .nil), rfl, rfl, rfl⟩; (case ss => repeat (first | exact SubS.nil | refine SubS.cons rfl rfl ?_ | refine SubS.cons (congrArg (fun z => some (V.val (Value.int IntKind.i64 z))) (by omega)) rfl ?_ | refine SubS.cons (congrArg (fun z => some (V.val (Value.bool z))) (by assumption)) rfl ?_)); (case hh => repeat (first | exact SubH.nil | refine SubH.cons rfl rfl rfl ?_)))
end Go.Proofs.Ytdkgbkmaeeicoaa.V

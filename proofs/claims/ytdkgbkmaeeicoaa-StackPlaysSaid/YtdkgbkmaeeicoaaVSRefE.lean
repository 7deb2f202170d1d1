/- stack: the document's answer: Edge, Pop. -/
import Derived.Test.YtdkgbkmaeeicoaaVSRef
set_option linter.unusedVariables false
set_option linter.unusedSimpArgs false
-- YtdkgbkmaeeicoaaVC
namespace Go.Proofs.Ytdkgbkmaeeicoaa.V
open Go Go.RowKit
theorem eqP_comm (x y : Int × Int) : eqP x y = eqP y x := by
  rw [eqP_is, eqP_is]; exact decide_eq_decide.2 eq_comm
theorem any_some {α : Type} {p : α → Bool} {l : List α} {k : Nat} {x : α} (h : l[k]? = some x) (hp : p x = true) : l.any p = true := List.any_eq_true.2 ⟨x, List.mem_of_getElem? h, hp⟩
theorem any_none {α : Type} {p : α → Bool} {l : List α} (hb : ∀ y ∈ l, p y = false) : l.any p = false := by
  rw [List.any_eq_false]
  intro x hx
  rw [hb x hx]; exact Bool.false_ne_true
set_option maxHeartbeats 4000000 in
theorem redge_v (l : List Nd) (n st ab : Int) (hl : ∀ u ∈ l, u.e.length ≤ 1000000) : VCalls Try.prog 12 [.ptr 0 0, .val (.int .i64 n), .val (.int .i64 st), .val (.int .i64 ab)] (reH l) 2 (Leaves (.val (.bool (edgeB l n st ab))) (reH' (addEdge l n st ab)) 3) := by
  refine VCalls.enterL (n := 68) Try.func12 rfl rfl (by simp) (fun cx hcx => ?_)
  unfold reH reH'
  (repeat (first | ((with_reducible refine VOps.same ?_); (first | (refine VOps.nil ?_; try dsimp only [VThen, VBlock]) | refine VOps.vp (by rfl) (by kernel_rfl) (by rfl) (VPure.move rfl rfl) ?_ | refine VOps.vp (by rfl) (by kernel_rfl) (by rfl) (VPure.assign rfl rfl) ?_)) | refine VCode.seq ?_ | refine VCode.region rfl ?_))
  refine VOps.pure rfl Try.func25 rfl (by kernel_rfl) rfl rfl rfl rfl rfl rfl rfl (rhasr_v l n) ?_
  (repeat (first | ((with_reducible refine VOps.same ?_); (first | refine VOps.vp (by rfl) (by kernel_rfl) (by rfl) (VPure.move rfl rfl) ?_ | refine VOps.vp (by rfl) (by kernel_rfl) (by rfl) (VPure.not rfl rfl) ?_))))
  refine VOps.bool (d := 15) rfl (fun h1 => ?_) (fun h1 => ?_)
  · have h1 := bnot_t h1
    have e1 : edgeB l n st ab = false := by unfold edgeB; rw [h1]; rfl
    have e2 : addEdge l n st ab = l := by unfold addEdge; rw [h1]; rfl
    (repeat (first | ((with_reducible refine VOps.same ?_); (first | (refine VOps.nil ?_; try dsimp only [VThen, VBlock]) | refine VOps.vp (by rfl) (by kernel_rfl) (by rfl) (VPure.pick_t rfl rfl rfl) ?_ | refine VOps.passv rfl (by kernel_rfl) rfl ?_))))
    refine VCode.cond_t rfl rfl ?_
    (repeat (first | ((with_reducible refine VOps.same ?_); (first | (refine VOps.nil ?_; try dsimp only [VThen, VBlock]) | refine VOps.vp (by rfl) (by kernel_rfl) (by rfl) (VPure.assign rfl rfl) ?_)) | refine VCode.seq ?_ | refine VCode.region rfl ?_))
    refine VCode.again (id := 1) rfl ?_
    refine VCode.ret ?_
    rw [e1, e2]
    (show Less cx _ _; refine Less.mkx (l := [0, 1, 2]) (st' := ⟨[(8, .val (.bool false))], [(0, .cells 28 [.ref 2]), (2, .nest 64 4 (l.map rowR) none)], 3⟩) 2 hcx (Nat.le_of_ble_eq_true rfl) (by decide) ?ss ?hh rfl (by decide) rfl ⟨_, (.tmp rfl .nil), rfl, rfl, rfl⟩; (case ss => repeat (first | exact SubS.nil | refine SubS.cons rfl rfl ?_ | refine SubS.cons (congrArg (fun z => some (V.val (Value.int IntKind.i64 z))) (by omega)) rfl ?_ | refine SubS.cons (congrArg (fun z => some (V.val (Value.bool z))) (by assumption)) rfl ?_)); (case hh => repeat (first | exact SubH.nil | refine SubH.cons rfl rfl rfl ?_)))
  have h1 := bnot_f h1
  (repeat (first | ((with_reducible refine VOps.same ?_); (first | refine VOps.vp (by rfl) (by kernel_rfl) (by rfl) (VPure.move rfl rfl) ?_))))
  refine VOps.pure rfl Try.func25 rfl (by kernel_rfl) rfl rfl rfl rfl rfl rfl rfl (rhasr_v l ab) ?_
  (repeat (first | ((with_reducible refine VOps.same ?_); (first | (refine VOps.nil ?_; try dsimp only [VThen, VBlock]) | refine VOps.vp (by rfl) (by kernel_rfl) (by rfl) (VPure.not rfl rfl) ?_ | refine VOps.vp (by rfl) (by kernel_rfl) (by rfl) (VPure.pick_f rfl rfl rfl) ?_))))
  refine VCode.cond rfl (fun h2 => ?_) (fun h2 => ?_)
  · have h2 := bnot_t h2
    have e1 : edgeB l n st ab = false := by unfold edgeB; rw [h2, Bool.false_and, Bool.and_false]
    have e2 : addEdge l n st ab = l := by unfold addEdge; rw [h2, Bool.and_false]; rfl
    (repeat (first | ((with_reducible refine VOps.same ?_); (first | (refine VOps.nil ?_; try dsimp only [VThen, VBlock]) | refine VOps.vp (by rfl) (by kernel_rfl) (by rfl) (VPure.assign rfl rfl) ?_)) | refine VCode.seq ?_ | refine VCode.region rfl ?_))
    refine VCode.again (id := 1) rfl ?_
    refine VCode.ret ?_
    rw [e1, e2]
    (show Less cx _ _; refine Less.mkx (l := [0, 1, 2]) (st' := ⟨[(8, .val (.bool false))], [(0, .cells 28 [.ref 2]), (2, .nest 64 4 (l.map rowR) none)], 3⟩) 2 hcx (Nat.le_of_ble_eq_true rfl) (by decide) ?ss ?hh rfl (by decide) rfl ⟨_, (.tmp rfl .nil), rfl, rfl, rfl⟩; (case ss => repeat (first | exact SubS.nil | refine SubS.cons rfl rfl ?_ | refine SubS.cons (congrArg (fun z => some (V.val (Value.int IntKind.i64 z))) (by omega)) rfl ?_ | refine SubS.cons (congrArg (fun z => some (V.val (Value.bool z))) (by assumption)) rfl ?_)); (case hh => repeat (first | exact SubH.nil | refine SubH.cons rfl rfl rfl ?_)))
  have h2 := bnot_f h2
  obtain ⟨k, u, rfl, hu, hk⟩ := hasB_some h1
  have e1 : edgeB l k st ab = !(u.e.any (eqP (st, ab))) := by unfold edgeB; rw [h1, h2, (of_some hu).1]; rfl
  have e2 : addEdge l k st ab = l.set k (withE (st, ab) u) := by unfold addEdge; rw [h1, h2, Bool.and_self, if_pos rfl, atNd_some hu]
  have hlu := hl u (List.mem_of_getElem? hu)
  (repeat (first | ((with_reducible refine VOps.same ?_); (first | (refine VOps.nil ?_; try dsimp only [VThen, VBlock]) | refine VOps.vp (by rfl) (by kernel_rfl) (by rfl) (VPure.move rfl rfl) ?_ | refine VOps.vp (by rfl) (by kernel_rfl) (by rfl) (VPure.assign rfl rfl) ?_ | refine VOps.vp (by rfl) (by kernel_rfl) (by rfl) (VPure.buildC rfl (by kernel_rfl) rfl (by rfl)) ?_ | refine VOps.alloc rfl rfl (by kernel_rfl) rfl (by kernel_rfl) rfl ?_ | refine VOps.store rfl rfl (by kernel_rfl) rfl rfl rfl rfl rfl rfl (Nat.le_of_ble_eq_true (by rfl)) rfl ?_)) | refine VCode.seq ?_ | refine VCode.region rfl ?_ | refine VCode.block ?_ | refine VCode.skip ?_))
  refine VCode.focus (id := 1) k 2 rfl (rows_map (f := rowR) hu rfl) ?_
  refine VCode.loop (fun m w => ∃ j : Nat, j ≤ u.e.length ∧ m = u.e.length - j ∧ (∀ y ∈ u.e.take j, eqP (st, ab) y = false) ∧ w = ⟨[(10, .val (.int .i64 (j : Int))), (0, .ptr 0 0), (1, .val (.int .i64 (k : Int))), (2, .val (.int .i64 st)), (3, .val (.int .i64 ab)), (9, .ptr 2 0)], [(0, .cells 28 [.ref 3]), (3, .nest 64 4 (l.map rowR) (some (k, 2, 4))), (4, .arr 68 2 (u.e.map encP)), (2, .cells 68 [.val (.int .i64 st), .val (.int .i64 ab)])], 5⟩) u.e.length ?_ ?_
  · (refine Less.mkx (l := [0, 1, 2, 4, 3]) 2 hcx (by exact Nat.le_of_ble_eq_true rfl) (by decide) ?ss ?hh rfl (by decide) rfl ⟨0, by omega, by omega, by simp, rfl⟩; (case ss => repeat (first | exact SubS.nil | refine SubS.cons rfl rfl ?_ | refine SubS.cons (congrArg (fun z => some (V.val (Value.int IntKind.i64 z))) (by omega)) rfl ?_ | refine SubS.cons (congrArg (fun z => some (V.val (Value.bool z))) (by assumption)) rfl ?_)); (case hh => repeat (first | exact SubH.nil | refine SubH.cons rfl rfl rfl ?_)))
  rintro m w ⟨j, hj, rfl, hb, rfl⟩
  cases ht : u.e[j]? with
  | some y =>
    have hlt : j < u.e.length := (List.getElem?_eq_some_iff.1 ht).1
    (repeat (first | ((with_reducible refine VOps.same ?_); (first | (refine VOps.nil ?_; try dsimp only [VThen, VBlock]) | refine VOps.vp (by rfl) (by kernel_rfl) (by rfl) (VPure.move rfl rfl) ?_ | refine VOps.vp (by rfl) (by kernel_rfl) (by rfl) (VPure.len_arr TI.und' rfl rfl rfl) ?_ | refine VOps.vp (by rfl) (by kernel_rfl) (by rfl) (VPure.field_ptr rfl rfl rfl) ?_ | refine VOps.vv (by rfl) (by kernel_rfl) (by rfl) (VLoad.box1 rfl rfl rfl rfl (by rfl) (by decide)) ?_ | refine VOps.vp (by rfl) (by kernel_rfl) (by rfl) (VPure.lss rfl rfl rfl) ?_ | refine VOps.vp (by rfl) (by kernel_rfl) (by rfl) (VPure.nilCheck_ptr rfl rfl rfl) ?_ | (refine VOps.vp (by rfl) (by kernel_rfl) (by rfl) (VPure.idx_nest rfl rfl rfl rfl ?b1 ?b2) ?_; (case b1 => (first | omega | (simp only [List.length_map, List.length_append, List.length_cons, List.length_nil] at *; omega) | (simp; omega))); (case b2 => (first | omega | (simp only [List.length_map, List.length_append, List.length_cons, List.length_nil] at *; omega) | (simp; omega)))) | (refine VOps.vp (by rfl) (by kernel_rfl) (by rfl) (VPure.field_nest rfl rfl rfl ?b1) ?_; (case b1 => (first | omega | (simp only [List.length_map, List.length_append, List.length_cons, List.length_nil] at *; omega) | (simp; omega)))) | (refine VOps.vv (by rfl) (by kernel_rfl) (by rfl) (VLoad.hole rfl rfl rfl (by rfl) ?b1 rfl (by decide)) ?_; (case b1 => exact ⟨by (first | omega | (simp only [List.length_map, List.length_append, List.length_cons, List.length_nil] at *; omega) | (simp; omega)), by decide⟩)))) | refine VCode.seq ?_ | refine VCode.region rfl ?_))
    refine VCode.cond_t rfl (decide_eq_true (by rw [List.length_map]; omega)) ?_
    (repeat (first | ((with_reducible refine VOps.same ?_); (first | (refine VOps.nil ?_; try dsimp only [VThen, VBlock]) | refine VOps.vp (by rfl) (by kernel_rfl) (by rfl) (VPure.move rfl rfl) ?_ | refine VOps.vp (by rfl) (by kernel_rfl) (by rfl) (VPure.idx_arrm rfl rfl rfl rfl (by assumption)) ?_ | refine VOps.vp (by rfl) (by kernel_rfl) (by rfl) (VPure.field_ptr rfl rfl rfl) ?_ | refine VOps.vv (by rfl) (by kernel_rfl) (by rfl) (VLoad.box1 rfl rfl rfl rfl (by rfl) (by decide)) ?_ | refine VOps.vv (by rfl) (by kernel_rfl) (by rfl) (VLoad.boxA rfl rfl rfl (by rfl) (Nat.le_of_ble_eq_true (by rfl)) (by decide)) ?_ | refine VOps.vv (by rfl) (by kernel_rfl) (by rfl) (VLoad.arrAm rfl rfl rfl (by rfl) (by assumption) rfl (Nat.le_of_ble_eq_true (by rfl)) (by decide)) ?_ | refine VOps.vp (by rfl) (by kernel_rfl) (by rfl) (VPure.eqA rfl rfl rfl (by rfl)) ?_ | refine VOps.vp (by rfl) (by kernel_rfl) (by rfl) (VPure.nilCheck_ptr rfl rfl rfl) ?_ | (refine VOps.vp (by rfl) (by kernel_rfl) (by rfl) (VPure.idx_nest rfl rfl rfl rfl ?b1 ?b2) ?_; (case b1 => (first | omega | (simp only [List.length_map, List.length_append, List.length_cons, List.length_nil] at *; omega) | (simp; omega))); (case b2 => (first | omega | (simp only [List.length_map, List.length_append, List.length_cons, List.length_nil] at *; omega) | (simp; omega)))) | (refine VOps.vp (by rfl) (by kernel_rfl) (by rfl) (VPure.field_nest rfl rfl rfl ?b1) ?_; (case b1 => (first | omega | (simp only [List.length_map, List.length_append, List.length_cons, List.length_nil] at *; omega) | (simp; omega)))) | (refine VOps.vv (by rfl) (by kernel_rfl) (by rfl) (VLoad.hole rfl rfl rfl (by rfl) ?b1 rfl (by decide)) ?_; (case b1 => exact ⟨by (first | omega | (simp only [List.length_map, List.length_append, List.length_cons, List.length_nil] at *; omega) | (simp; omega)), by decide⟩)))) | refine VCode.seq ?_ | refine VCode.draw [] rfl ?_ | refine VCode.block ?_ | refine VCode.skip ?_))
    refine VCode.cond rfl (fun hp => ?_) (fun hp => ?_)
    · have hp' : eqP (st, ab) y = true := by rw [eqP_comm]; exact hp
      have ha := any_some (p := eqP (st, ab)) ht hp'
      have e3 : withE (st, ab) u = u := by unfold withE addP; rw [if_pos ha]
      (repeat (first | ((with_reducible refine VOps.same ?_); (first | (refine VOps.nil ?_; try dsimp only [VThen, VBlock]) | refine VOps.vp (by rfl) (by kernel_rfl) (by rfl) (VPure.assign rfl rfl) ?_)) | refine VCode.seq ?_ | refine VCode.region rfl ?_))
      refine VCode.unfocus (id := 3) rfl rfl ⟨by rw [List.length_map]; exact hk, by decide⟩ (putN_map (u' := u) hu rfl) ?_
      refine VCode.ret ?_
      rw [e1, e2, e3, ha, set_same hu]
      (show Less cx _ _; refine Less.mkx (l := [0, 1, 5]) (st' := ⟨[(8, .val (.bool false))], [(0, .cells 28 [.ref 2]), (2, .nest 64 4 (l.map rowR) none)], 3⟩) 2 hcx (Nat.le_of_ble_eq_true rfl) (by decide) ?ss ?hh rfl (by decide) rfl ⟨_, (.tmp rfl .nil), rfl, rfl, rfl⟩; (case ss => repeat (first | exact SubS.nil | refine SubS.cons rfl rfl ?_ | refine SubS.cons (congrArg (fun z => some (V.val (Value.int IntKind.i64 z))) (by omega)) rfl ?_ | refine SubS.cons (congrArg (fun z => some (V.val (Value.bool z))) (by assumption)) rfl ?_)); (case hh => repeat (first | exact SubH.nil | refine SubH.cons rfl rfl rfl ?_)))
    · have hp' : eqP (st, ab) y = false := by rw [eqP_comm]; exact hp
      (repeat (first | ((with_reducible refine VOps.same ?_); (first | (refine VOps.nil ?_; try dsimp only [VThen, VBlock]) | refine VOps.vp (by rfl) (by kernel_rfl) (by rfl) (VPure.move rfl rfl) ?_ | refine VOps.vp (by rfl) (by kernel_rfl) (by rfl) (VPure.assign rfl rfl) ?_ | refine VOps.vp (by rfl) (by kernel_rfl) (by rfl) (VPure.addK rfl rfl rfl (by omega)) ?_)) | refine VCode.region rfl ?_ | refine VCode.skip ?_))
      (refine Less.mkx (l := [0, 1, 2, 3, 4]) 2 hcx (by exact Nat.le_of_ble_eq_true rfl) (by decide) ?ss ?hh rfl (by decide) rfl ⟨_, ?_, j + 1, by omega, rfl, ?_, rfl⟩; (case ss => repeat (first | exact SubS.nil | refine SubS.cons rfl rfl ?_ | refine SubS.cons (congrArg (fun z => some (V.val (Value.int IntKind.i64 z))) (by omega)) rfl ?_ | refine SubS.cons (congrArg (fun z => some (V.val (Value.bool z))) (by assumption)) rfl ?_)); (case hh => repeat (first | exact SubH.nil | refine SubH.cons rfl rfl rfl ?_)))
      · omega
      · intro v hv
        rw [List.take_add_one, ht] at hv
        rcases List.mem_append.1 hv with h | h
        · exact hb v h
        · obtain rfl := List.mem_singleton.1 h
          exact hp'
  | none =>
    have hge : u.e.length ≤ j := List.getElem?_eq_none_iff.1 ht
    rw [List.take_of_length_le hge] at hb
    have ha := any_none hb
    have e3 : withE (st, ab) u = ⟨u.sym, u.pos, u.e ++ [(st, ab)], u.p⟩ := by unfold withE addP; rw [if_neg (by rw [ha]; exact Bool.false_ne_true)]
    (repeat (first | ((with_reducible refine VOps.same ?_); (first | (refine VOps.nil ?_; try dsimp only [VThen, VBlock]) | refine VOps.vp (by rfl) (by kernel_rfl) (by rfl) (VPure.move rfl rfl) ?_ | refine VOps.vp (by rfl) (by kernel_rfl) (by rfl) (VPure.len_arr TI.und' rfl rfl rfl) ?_ | refine VOps.vp (by rfl) (by kernel_rfl) (by rfl) (VPure.field_ptr rfl rfl rfl) ?_ | refine VOps.vv (by rfl) (by kernel_rfl) (by rfl) (VLoad.box1 rfl rfl rfl rfl (by rfl) (by decide)) ?_ | refine VOps.vp (by rfl) (by kernel_rfl) (by rfl) (VPure.lss rfl rfl rfl) ?_ | refine VOps.vp (by rfl) (by kernel_rfl) (by rfl) (VPure.nilCheck_ptr rfl rfl rfl) ?_ | (refine VOps.vp (by rfl) (by kernel_rfl) (by rfl) (VPure.idx_nest rfl rfl rfl rfl ?b1 ?b2) ?_; (case b1 => (first | omega | (simp only [List.length_map, List.length_append, List.length_cons, List.length_nil] at *; omega) | (simp; omega))); (case b2 => (first | omega | (simp only [List.length_map, List.length_append, List.length_cons, List.length_nil] at *; omega) | (simp; omega)))) | (refine VOps.vp (by rfl) (by kernel_rfl) (by rfl) (VPure.field_nest rfl rfl rfl ?b1) ?_; (case b1 => (first | omega | (simp only [List.length_map, List.length_append, List.length_cons, List.length_nil] at *; omega) | (simp; omega)))) | (refine VOps.vv (by rfl) (by kernel_rfl) (by rfl) (VLoad.hole rfl rfl rfl (by rfl) ?b1 rfl (by decide)) ?_; (case b1 => exact ⟨by (first | omega | (simp only [List.length_map, List.length_append, List.length_cons, List.length_nil] at *; omega) | (simp; omega)), by decide⟩)))) | refine VCode.seq ?_ | refine VCode.region rfl ?_))
    refine VCode.cond_f rfl (decide_eq_false (by rw [List.length_map]; omega)) ?_
    (repeat (first | refine VCode.seq ?_ | refine VCode.exit ?_))
    refine VCode.thenTo ⟨[], [(0, .cells 28 [.ref 2]), (2, .nest 64 4 (l.map rowR) (some (k, 2, 3))), (3, .arr 68 2 ((u.e ++ [(st, ab)]).map encP))], 4⟩ ?_ ?_
    · refine VCode.drawAny [3, 4, 5, 6] (by kernel_rfl) rfl ?_
      refine VAny.pureI (i := 0) rfl rfl (by kernel_rfl) rfl (VPure.move rfl rfl) ?_
      refine VAny.pureI (i := 1) rfl rfl (by kernel_rfl) rfl (VPure.nilCheck_ptr rfl rfl rfl) ?_
      refine VAny.pureI (i := 2) rfl rfl (by kernel_rfl) rfl (VPure.field_ptr rfl rfl rfl) ?_
      refine VAny.loadI (i := 3) rfl rfl (by kernel_rfl) rfl (VLoad.box1 rfl rfl rfl rfl (by rfl) (by decide)) ?_
      refine VAny.pureI (i := 4) rfl rfl (by kernel_rfl) rfl (VPure.move rfl rfl) ?_
      refine VAny.pureI (i := 5) rfl rfl (by kernel_rfl) rfl (VPure.move rfl rfl) ?_
      refine VAny.pureI (i := 6) rfl rfl (by kernel_rfl) rfl (VPure.nilCheck_ptr rfl rfl rfl) ?_
      refine VAny.pureI (i := 7) rfl rfl (by kernel_rfl) rfl (VPure.field_ptr rfl rfl rfl) ?_
      refine VAny.loadI (i := 8) rfl rfl (by kernel_rfl) rfl (VLoad.box1 rfl rfl rfl rfl (by rfl) (by decide)) ?_
      refine VAny.pureI (i := 9) rfl rfl (by kernel_rfl) rfl (VPure.move rfl rfl) ?_
      refine VAny.pureI (i := 10) rfl rfl (by kernel_rfl) rfl (VPure.idx_nest rfl rfl rfl rfl (by omega) (by rw [List.length_map]; omega)) ?_
      refine VAny.pureI (i := 11) rfl rfl (by kernel_rfl) rfl (VPure.field_nest rfl rfl rfl (by rw [List.length_map]; omega)) ?_
      refine VAny.loadI (i := 13) rfl rfl (by kernel_rfl) rfl (VLoad.boxA rfl rfl rfl (by rfl) (Nat.le_of_ble_eq_true (by rfl)) (by decide)) ?_
      refine VAny.movesI (is := [12, 14]) (by kernel_rfl) (by simp) rfl (allC ?_ (all1 ?_))
      · refine VMv.load rfl rfl rfl (VLoad.hole rfl rfl rfl (by rfl) ⟨by rw [List.length_map]; exact hk, by decide⟩ rfl (by decide)) ?_
        refine VAny.movesI (is := [14]) (by kernel_rfl) (by simp) rfl (all1 ?_)
        · refine VMv.one rfl rfl rfl rfl (by rfl) (by decide) (by decide) rfl (by rfl) (by rfl) ?_
          refine VAny.movesI (is := [15]) (by kernel_rfl) (by simp) rfl (all1 ?_)
          · refine VMv.append (zs := (u.e ++ [(st, ab)]).map encP) rfl rfl rfl rfl (by rfl) (by decide) rfl (.arr rfl) rfl rfl (.arr rfl) (by simp only [List.length_append, List.length_cons, List.length_nil, List.length_map]; unfold most; omega) (by simp only [List.length_append, List.length_cons, List.length_nil, List.length_map]; unfold most; omega) rfl ( by rw [List.map_append]; rfl) ?_
            refine VAny.pureI (i := 16) rfl rfl (by kernel_rfl) rfl (VPure.idx_nest rfl rfl rfl rfl (by omega) (by rw [List.length_map]; omega)) ?_
            refine VAny.pureI (i := 17) rfl rfl (by kernel_rfl) rfl (VPure.field_nest rfl rfl rfl (by rw [List.length_map]; omega)) ?_
            refine VAny.movesI (is := [18]) (by kernel_rfl) (by simp) rfl (all1 ?_)
            · refine VMv.store_nest rfl rfl rfl rfl rfl rfl rfl rfl (by rfl) (⟨by rw [List.length_map]; exact hk, by decide⟩) (.inl ⟨_, rfl⟩) ?_
              refine VAny.done ?_
              (refine Less.mkx (l := [0, 1, 3, 6]) 2 hcx (by exact Nat.le_of_ble_eq_true rfl) (by decide) ?ss ?hh rfl (by decide) rfl rfl; (case ss => repeat (first | exact SubS.nil | refine SubS.cons rfl rfl ?_ | refine SubS.cons (congrArg (fun z => some (V.val (Value.int IntKind.i64 z))) (by omega)) rfl ?_ | refine SubS.cons (congrArg (fun z => some (V.val (Value.bool z))) (by assumption)) rfl ?_)); (case hh => repeat (first | exact SubH.nil | refine SubH.cons rfl rfl rfl ?_)))
      · refine VMv.one rfl rfl rfl rfl (by rfl) (by decide) (by decide) rfl (by rfl) (by rfl) ?_
        refine VAny.movesI (is := [12]) (by kernel_rfl) (by simp) rfl (all1 ?_)
        · refine VMv.load rfl rfl rfl (VLoad.hole rfl rfl rfl (by rfl) ⟨by rw [List.length_map]; exact hk, by decide⟩ rfl (by decide)) ?_
          refine VAny.movesI (is := [15]) (by kernel_rfl) (by simp) rfl (all1 ?_)
          · refine VMv.append (zs := (u.e ++ [(st, ab)]).map encP) rfl rfl rfl rfl (by rfl) (by decide) rfl (.arr rfl) rfl rfl (.arr rfl) (by simp only [List.length_append, List.length_cons, List.length_nil, List.length_map]; unfold most; omega) (by simp only [List.length_append, List.length_cons, List.length_nil, List.length_map]; unfold most; omega) rfl ( by rw [List.map_append]; rfl) ?_
            refine VAny.pureI (i := 16) rfl rfl (by kernel_rfl) rfl (VPure.idx_nest rfl rfl rfl rfl (by omega) (by rw [List.length_map]; omega)) ?_
            refine VAny.pureI (i := 17) rfl rfl (by kernel_rfl) rfl (VPure.field_nest rfl rfl rfl (by rw [List.length_map]; omega)) ?_
            refine VAny.movesI (is := [18]) (by kernel_rfl) (by simp) rfl (all1 ?_)
            · refine VMv.store_nest rfl rfl rfl rfl rfl rfl rfl rfl (by rfl) (⟨by rw [List.length_map]; exact hk, by decide⟩) (.inl ⟨_, rfl⟩) ?_
              refine VAny.done ?_
              (refine Less.mkx (l := [0, 1, 3, 6]) 2 hcx (by exact Nat.le_of_ble_eq_true rfl) (by decide) ?ss ?hh rfl (by decide) rfl rfl; (case ss => repeat (first | exact SubS.nil | refine SubS.cons rfl rfl ?_ | refine SubS.cons (congrArg (fun z => some (V.val (Value.int IntKind.i64 z))) (by omega)) rfl ?_ | refine SubS.cons (congrArg (fun z => some (V.val (Value.bool z))) (by assumption)) rfl ?_)); (case hh => repeat (first | exact SubH.nil | refine SubH.cons rfl rfl rfl ?_)))
    (repeat (first | ((with_reducible refine VOps.same ?_); (first | (refine VOps.nil ?_; try dsimp only [VThen, VBlock]) | refine VOps.vp (by rfl) (by kernel_rfl) (by rfl) (VPure.assign rfl rfl) ?_)) | refine VCode.seq ?_ | refine VCode.region rfl ?_))
    refine VCode.unfocus (id := 2) rfl rfl ⟨by rw [List.length_map]; exact hk, by decide⟩ (putN_map (u' := Nd.mk u.sym u.pos (u.e ++ [(st, ab)]) u.p) hu rfl) ?_
    refine VCode.ret ?_
    rw [e1, e2, e3, ha]
    (show Less cx _ _; refine Less.mkx (l := [0, 1, 4]) (st' := ⟨[(8, .val (.bool true))], [(0, .cells 28 [.ref 2]), (2, .nest 64 4 ((l.set k (Nd.mk u.sym u.pos (u.e ++ [(st, ab)]) u.p)).map rowR) none)], 3⟩) 2 hcx (Nat.le_of_ble_eq_true rfl) (by decide) ?ss ?hh rfl (by decide) rfl ⟨_, (.tmp rfl .nil), rfl, rfl, rfl⟩; (case ss => repeat (first | exact SubS.nil | refine SubS.cons rfl rfl ?_ | refine SubS.cons (congrArg (fun z => some (V.val (Value.int IntKind.i64 z))) (by omega)) rfl ?_ | refine SubS.cons (congrArg (fun z => some (V.val (Value.bool z))) (by assumption)) rfl ?_)); (case hh => repeat (first | exact SubH.nil | refine SubH.cons rfl rfl rfl ?_)))
set_option maxHeartbeats 4000000 in
theorem rpop_v (l : List Nd) (n q : Int) (hl : ∀ u ∈ l, u.p.length ≤ 1000000) : VCalls Try.prog 14 [.ptr 0 0, .val (.int .i64 n), .val (.int .i64 q)] (reH l) 2 (Leaves (.val (.bool (popB l n q))) (reH' (addPop l n q)) 3) := by
  refine VCalls.enterL (n := 56) Try.func14 rfl rfl (by simp) (fun cx hcx => ?_)
  unfold reH reH'
  (repeat (first | ((with_reducible refine VOps.same ?_); (first | (refine VOps.nil ?_; try dsimp only [VThen, VBlock]) | refine VOps.vp (by rfl) (by kernel_rfl) (by rfl) (VPure.move rfl rfl) ?_ | refine VOps.vp (by rfl) (by kernel_rfl) (by rfl) (VPure.assign rfl rfl) ?_)) | refine VCode.seq ?_ | refine VCode.region rfl ?_))
  refine VOps.pure rfl Try.func25 rfl (by kernel_rfl) rfl rfl rfl rfl rfl rfl rfl (rhasr_v l n) ?_
  (repeat (first | ((with_reducible refine VOps.same ?_); (first | (refine VOps.nil ?_; try dsimp only [VThen, VBlock]) | refine VOps.vp (by rfl) (by kernel_rfl) (by rfl) (VPure.not rfl rfl) ?_))))
  refine VCode.cond rfl (fun h1 => ?_) (fun h1 => ?_)
  · have h1 := bnot_t h1
    have e1 : popB l n q = false := by unfold popB; rw [h1]; rfl
    have e2 : addPop l n q = l := by unfold addPop; rw [h1]; rfl
    (repeat (first | ((with_reducible refine VOps.same ?_); (first | (refine VOps.nil ?_; try dsimp only [VThen, VBlock]) | refine VOps.vp (by rfl) (by kernel_rfl) (by rfl) (VPure.assign rfl rfl) ?_)) | refine VCode.seq ?_ | refine VCode.region rfl ?_))
    refine VCode.again (id := 1) rfl ?_
    refine VCode.ret ?_
    rw [e1, e2]
    (show Less cx _ _; refine Less.mkx (l := [0, 1, 2]) (st' := ⟨[(6, .val (.bool false))], [(0, .cells 28 [.ref 2]), (2, .nest 64 4 (l.map rowR) none)], 3⟩) 2 hcx (Nat.le_of_ble_eq_true rfl) (by decide) ?ss ?hh rfl (by decide) rfl ⟨_, (.tmp rfl .nil), rfl, rfl, rfl⟩; (case ss => repeat (first | exact SubS.nil | refine SubS.cons rfl rfl ?_ | refine SubS.cons (congrArg (fun z => some (V.val (Value.int IntKind.i64 z))) (by omega)) rfl ?_ | refine SubS.cons (congrArg (fun z => some (V.val (Value.bool z))) (by assumption)) rfl ?_)); (case hh => repeat (first | exact SubH.nil | refine SubH.cons rfl rfl rfl ?_)))
  have h1 := bnot_f h1
  obtain ⟨k, u, rfl, hu, hk⟩ := hasB_some h1
  have e1 : popB l k q = !(u.p.any fun y => decide (q = y)) := by unfold popB; rw [h1, (of_some hu).2]; rfl
  have e2 : addPop l k q = l.set k (withP q u) := by unfold addPop; rw [h1, if_pos rfl, atNd_some hu]
  have hlu := hl u (List.mem_of_getElem? hu)
  (repeat (first | ((with_reducible refine VOps.same ?_); (first | (refine VOps.nil ?_; try dsimp only [VThen, VBlock]) | refine VOps.vp (by rfl) (by kernel_rfl) (by rfl) (VPure.assign rfl rfl) ?_)) | refine VCode.seq ?_ | refine VCode.region rfl ?_ | refine VCode.block ?_ | refine VCode.skip ?_))
  refine VCode.focus (id := 1) k 3 rfl (rows_map (f := rowR) hu rfl) ?_
  refine VCode.loop (fun m w => ∃ j : Nat, j ≤ u.p.length ∧ m = u.p.length - j ∧ (∀ y ∈ u.p.take j, decide (q = y) = false) ∧ w = ⟨[(7, .val (.int .i64 (j : Int))), (0, .ptr 0 0), (1, .val (.int .i64 (k : Int))), (2, .val (.int .i64 q))], [(0, .cells 28 [.ref 2]), (2, .nest 64 4 (l.map rowR) (some (k, 3, 3))), (3, .arr 3 1 (u.p.map encZ))], 4⟩) u.p.length ?_ ?_
  · (refine Less.mkx (l := [0, 1, 3, 2]) 2 hcx (by exact Nat.le_of_ble_eq_true rfl) (by decide) ?ss ?hh rfl (by decide) rfl ⟨0, by omega, by omega, by simp, rfl⟩; (case ss => repeat (first | exact SubS.nil | refine SubS.cons rfl rfl ?_ | refine SubS.cons (congrArg (fun z => some (V.val (Value.int IntKind.i64 z))) (by omega)) rfl ?_ | refine SubS.cons (congrArg (fun z => some (V.val (Value.bool z))) (by assumption)) rfl ?_)); (case hh => repeat (first | exact SubH.nil | refine SubH.cons rfl rfl rfl ?_)))
  rintro m w ⟨j, hj, rfl, hb, rfl⟩
  cases ht : u.p[j]? with
  | some y =>
    have hlt : j < u.p.length := (List.getElem?_eq_some_iff.1 ht).1
    (repeat (first | ((with_reducible refine VOps.same ?_); (first | (refine VOps.nil ?_; try dsimp only [VThen, VBlock]) | refine VOps.vp (by rfl) (by kernel_rfl) (by rfl) (VPure.move rfl rfl) ?_ | refine VOps.vp (by rfl) (by kernel_rfl) (by rfl) (VPure.len_arr TI.und' rfl rfl rfl) ?_ | refine VOps.vp (by rfl) (by kernel_rfl) (by rfl) (VPure.field_ptr rfl rfl rfl) ?_ | refine VOps.vv (by rfl) (by kernel_rfl) (by rfl) (VLoad.box1 rfl rfl rfl rfl (by rfl) (by decide)) ?_ | refine VOps.vp (by rfl) (by kernel_rfl) (by rfl) (VPure.lss rfl rfl rfl) ?_ | refine VOps.vp (by rfl) (by kernel_rfl) (by rfl) (VPure.nilCheck_ptr rfl rfl rfl) ?_ | (refine VOps.vp (by rfl) (by kernel_rfl) (by rfl) (VPure.idx_nest rfl rfl rfl rfl ?b1 ?b2) ?_; (case b1 => (first | omega | (simp only [List.length_map, List.length_append, List.length_cons, List.length_nil] at *; omega) | (simp; omega))); (case b2 => (first | omega | (simp only [List.length_map, List.length_append, List.length_cons, List.length_nil] at *; omega) | (simp; omega)))) | (refine VOps.vp (by rfl) (by kernel_rfl) (by rfl) (VPure.field_nest rfl rfl rfl ?b1) ?_; (case b1 => (first | omega | (simp only [List.length_map, List.length_append, List.length_cons, List.length_nil] at *; omega) | (simp; omega)))) | (refine VOps.vv (by rfl) (by kernel_rfl) (by rfl) (VLoad.hole rfl rfl rfl (by rfl) ?b1 rfl (by decide)) ?_; (case b1 => exact ⟨by (first | omega | (simp only [List.length_map, List.length_append, List.length_cons, List.length_nil] at *; omega) | (simp; omega)), by decide⟩)))) | refine VCode.seq ?_ | refine VCode.region rfl ?_))
    refine VCode.cond_t rfl (decide_eq_true (by rw [List.length_map]; omega)) ?_
    (repeat (first | ((with_reducible refine VOps.same ?_); (first | (refine VOps.nil ?_; try dsimp only [VThen, VBlock]) | refine VOps.vp (by rfl) (by kernel_rfl) (by rfl) (VPure.move rfl rfl) ?_ | refine VOps.vp (by rfl) (by kernel_rfl) (by rfl) (VPure.idx_arrm rfl rfl rfl rfl (by assumption)) ?_ | refine VOps.vp (by rfl) (by kernel_rfl) (by rfl) (VPure.field_ptr rfl rfl rfl) ?_ | refine VOps.vv (by rfl) (by kernel_rfl) (by rfl) (VLoad.box1 rfl rfl rfl rfl (by rfl) (by decide)) ?_ | refine VOps.vv (by rfl) (by kernel_rfl) (by rfl) (VLoad.arr1m rfl rfl rfl (by rfl) (by assumption) (by rfl) rfl (by decide)) ?_ | refine VOps.vp (by rfl) (by kernel_rfl) (by rfl) (VPure.eqi rfl rfl rfl) ?_ | refine VOps.vp (by rfl) (by kernel_rfl) (by rfl) (VPure.nilCheck_ptr rfl rfl rfl) ?_ | (refine VOps.vp (by rfl) (by kernel_rfl) (by rfl) (VPure.idx_nest rfl rfl rfl rfl ?b1 ?b2) ?_; (case b1 => (first | omega | (simp only [List.length_map, List.length_append, List.length_cons, List.length_nil] at *; omega) | (simp; omega))); (case b2 => (first | omega | (simp only [List.length_map, List.length_append, List.length_cons, List.length_nil] at *; omega) | (simp; omega)))) | (refine VOps.vp (by rfl) (by kernel_rfl) (by rfl) (VPure.field_nest rfl rfl rfl ?b1) ?_; (case b1 => (first | omega | (simp only [List.length_map, List.length_append, List.length_cons, List.length_nil] at *; omega) | (simp; omega)))) | (refine VOps.vv (by rfl) (by kernel_rfl) (by rfl) (VLoad.hole rfl rfl rfl (by rfl) ?b1 rfl (by decide)) ?_; (case b1 => exact ⟨by (first | omega | (simp only [List.length_map, List.length_append, List.length_cons, List.length_nil] at *; omega) | (simp; omega)), by decide⟩)))) | refine VCode.seq ?_ | refine VCode.region rfl ?_ | refine VCode.block ?_ | refine VCode.skip ?_))
    refine VCode.cond rfl (fun hp => ?_) (fun hp => ?_)
    · have hp' : decide (q = y) = true := decide_eq_true (of_decide_eq_true hp).symm
      have ha := any_some (p := fun y => decide (q = y)) ht hp'
      have e3 : withP q u = u := by unfold withP addZ; rw [if_pos ha]
      (repeat (first | ((with_reducible refine VOps.same ?_); (first | (refine VOps.nil ?_; try dsimp only [VThen, VBlock]) | refine VOps.vp (by rfl) (by kernel_rfl) (by rfl) (VPure.assign rfl rfl) ?_)) | refine VCode.seq ?_ | refine VCode.region rfl ?_))
      refine VCode.unfocus (id := 2) rfl rfl ⟨by rw [List.length_map]; exact hk, by decide⟩ (putN_map (u' := u) hu rfl) ?_
      refine VCode.ret ?_
      rw [e1, e2, e3, ha, set_same hu]
      (show Less cx _ _; refine Less.mkx (l := [0, 1, 4]) (st' := ⟨[(6, .val (.bool false))], [(0, .cells 28 [.ref 2]), (2, .nest 64 4 (l.map rowR) none)], 3⟩) 2 hcx (Nat.le_of_ble_eq_true rfl) (by decide) ?ss ?hh rfl (by decide) rfl ⟨_, (.tmp rfl .nil), rfl, rfl, rfl⟩; (case ss => repeat (first | exact SubS.nil | refine SubS.cons rfl rfl ?_ | refine SubS.cons (congrArg (fun z => some (V.val (Value.int IntKind.i64 z))) (by omega)) rfl ?_ | refine SubS.cons (congrArg (fun z => some (V.val (Value.bool z))) (by assumption)) rfl ?_)); (case hh => repeat (first | exact SubH.nil | refine SubH.cons rfl rfl rfl ?_)))
    · have hp' : decide (q = y) = false := decide_eq_false (fun e => of_decide_eq_false hp e.symm)
      (repeat (first | ((with_reducible refine VOps.same ?_); (first | (refine VOps.nil ?_; try dsimp only [VThen, VBlock]) | refine VOps.vp (by rfl) (by kernel_rfl) (by rfl) (VPure.move rfl rfl) ?_ | refine VOps.vp (by rfl) (by kernel_rfl) (by rfl) (VPure.assign rfl rfl) ?_ | refine VOps.vp (by rfl) (by kernel_rfl) (by rfl) (VPure.addK rfl rfl rfl (by omega)) ?_)) | refine VCode.region rfl ?_ | refine VCode.skip ?_))
      (refine Less.mkx (l := [0, 1, 2, 3]) 2 hcx (by exact Nat.le_of_ble_eq_true rfl) (by decide) ?ss ?hh rfl (by decide) rfl ⟨_, ?_, j + 1, by omega, rfl, ?_, rfl⟩; (case ss => repeat (first | exact SubS.nil | refine SubS.cons rfl rfl ?_ | refine SubS.cons (congrArg (fun z => some (V.val (Value.int IntKind.i64 z))) (by omega)) rfl ?_ | refine SubS.cons (congrArg (fun z => some (V.val (Value.bool z))) (by assumption)) rfl ?_)); (case hh => repeat (first | exact SubH.nil | refine SubH.cons rfl rfl rfl ?_)))
      · omega
      · intro v hv
        rw [List.take_add_one, ht] at hv
        rcases List.mem_append.1 hv with h | h
        · exact hb v h
        · obtain rfl := List.mem_singleton.1 h
          exact hp'
  | none =>
    have hge : u.p.length ≤ j := List.getElem?_eq_none_iff.1 ht
    rw [List.take_of_length_le hge] at hb
    have ha := any_none hb
    have e3 : withP q u = ⟨u.sym, u.pos, u.e, u.p ++ [q]⟩ := by unfold withP addZ; rw [if_neg (by rw [ha]; exact Bool.false_ne_true)]
    (repeat (first | ((with_reducible refine VOps.same ?_); (first | (refine VOps.nil ?_; try dsimp only [VThen, VBlock]) | refine VOps.vp (by rfl) (by kernel_rfl) (by rfl) (VPure.move rfl rfl) ?_ | refine VOps.vp (by rfl) (by kernel_rfl) (by rfl) (VPure.len_arr TI.und' rfl rfl rfl) ?_ | refine VOps.vp (by rfl) (by kernel_rfl) (by rfl) (VPure.field_ptr rfl rfl rfl) ?_ | refine VOps.vv (by rfl) (by kernel_rfl) (by rfl) (VLoad.box1 rfl rfl rfl rfl (by rfl) (by decide)) ?_ | refine VOps.vp (by rfl) (by kernel_rfl) (by rfl) (VPure.lss rfl rfl rfl) ?_ | refine VOps.vp (by rfl) (by kernel_rfl) (by rfl) (VPure.nilCheck_ptr rfl rfl rfl) ?_ | (refine VOps.vp (by rfl) (by kernel_rfl) (by rfl) (VPure.idx_nest rfl rfl rfl rfl ?b1 ?b2) ?_; (case b1 => (first | omega | (simp only [List.length_map, List.length_append, List.length_cons, List.length_nil] at *; omega) | (simp; omega))); (case b2 => (first | omega | (simp only [List.length_map, List.length_append, List.length_cons, List.length_nil] at *; omega) | (simp; omega)))) | (refine VOps.vp (by rfl) (by kernel_rfl) (by rfl) (VPure.field_nest rfl rfl rfl ?b1) ?_; (case b1 => (first | omega | (simp only [List.length_map, List.length_append, List.length_cons, List.length_nil] at *; omega) | (simp; omega)))) | (refine VOps.vv (by rfl) (by kernel_rfl) (by rfl) (VLoad.hole rfl rfl rfl (by rfl) ?b1 rfl (by decide)) ?_; (case b1 => exact ⟨by (first | omega | (simp only [List.length_map, List.length_append, List.length_cons, List.length_nil] at *; omega) | (simp; omega)), by decide⟩)))) | refine VCode.seq ?_ | refine VCode.region rfl ?_))
    refine VCode.cond_f rfl (decide_eq_false (by rw [List.length_map]; omega)) ?_
    (repeat (first | refine VCode.seq ?_ | refine VCode.exit ?_))
    refine VCode.thenTo ⟨[], [(0, .cells 28 [.ref 2]), (2, .nest 64 4 (l.map rowR) (some (k, 3, 3))), (3, .arr 3 1 ((u.p ++ [q]).map encZ))], 4⟩ ?_ ?_
    · refine VCode.drawAny [2, 3, 4, 5] (by kernel_rfl) rfl ?_
      refine VAny.pureI (i := 0) rfl rfl (by kernel_rfl) rfl (VPure.move rfl rfl) ?_
      refine VAny.pureI (i := 1) rfl rfl (by kernel_rfl) rfl (VPure.nilCheck_ptr rfl rfl rfl) ?_
      refine VAny.pureI (i := 2) rfl rfl (by kernel_rfl) rfl (VPure.field_ptr rfl rfl rfl) ?_
      refine VAny.loadI (i := 3) rfl rfl (by kernel_rfl) rfl (VLoad.box1 rfl rfl rfl rfl (by rfl) (by decide)) ?_
      refine VAny.pureI (i := 4) rfl rfl (by kernel_rfl) rfl (VPure.move rfl rfl) ?_
      refine VAny.pureI (i := 5) rfl rfl (by kernel_rfl) rfl (VPure.move rfl rfl) ?_
      refine VAny.pureI (i := 6) rfl rfl (by kernel_rfl) rfl (VPure.nilCheck_ptr rfl rfl rfl) ?_
      refine VAny.pureI (i := 7) rfl rfl (by kernel_rfl) rfl (VPure.field_ptr rfl rfl rfl) ?_
      refine VAny.loadI (i := 8) rfl rfl (by kernel_rfl) rfl (VLoad.box1 rfl rfl rfl rfl (by rfl) (by decide)) ?_
      refine VAny.pureI (i := 9) rfl rfl (by kernel_rfl) rfl (VPure.move rfl rfl) ?_
      refine VAny.pureI (i := 10) rfl rfl (by kernel_rfl) rfl (VPure.idx_nest rfl rfl rfl rfl (by omega) (by rw [List.length_map]; omega)) ?_
      refine VAny.pureI (i := 11) rfl rfl (by kernel_rfl) rfl (VPure.field_nest rfl rfl rfl (by rw [List.length_map]; omega)) ?_
      refine VAny.pureI (i := 13) rfl rfl (by kernel_rfl) rfl (VPure.move rfl rfl) ?_
      refine VAny.movesI (is := [12, 14]) (by kernel_rfl) (by simp) rfl (allC ?_ (all1 ?_))
      · refine VMv.load rfl rfl rfl (VLoad.hole rfl rfl rfl (by rfl) ⟨by rw [List.length_map]; exact hk, by decide⟩ rfl (by decide)) ?_
        refine VAny.movesI (is := [14]) (by kernel_rfl) (by simp) rfl (all1 ?_)
        · refine VMv.one rfl rfl rfl rfl (by rfl) (by decide) (by decide) rfl (by rfl) (by rfl) ?_
          refine VAny.movesI (is := [15]) (by kernel_rfl) (by simp) rfl (all1 ?_)
          · refine VMv.append (zs := (u.p ++ [q]).map encZ) rfl rfl rfl rfl (by rfl) (by decide) rfl (.arr rfl) rfl rfl (.arr rfl) (by simp only [List.length_append, List.length_cons, List.length_nil, List.length_map]; unfold most; omega) (by simp only [List.length_append, List.length_cons, List.length_nil, List.length_map]; unfold most; omega) rfl ( by rw [List.map_append]; rfl) ?_
            refine VAny.pureI (i := 16) rfl rfl (by kernel_rfl) rfl (VPure.idx_nest rfl rfl rfl rfl (by omega) (by rw [List.length_map]; omega)) ?_
            refine VAny.pureI (i := 17) rfl rfl (by kernel_rfl) rfl (VPure.field_nest rfl rfl rfl (by rw [List.length_map]; omega)) ?_
            refine VAny.movesI (is := [18]) (by kernel_rfl) (by simp) rfl (all1 ?_)
            · refine VMv.store_nest rfl rfl rfl rfl rfl rfl rfl rfl (by rfl) (⟨by rw [List.length_map]; exact hk, by decide⟩) (.inl ⟨_, rfl⟩) ?_
              refine VAny.done ?_
              (refine Less.mkx (l := [0, 1, 2, 5]) 2 hcx (by exact Nat.le_of_ble_eq_true rfl) (by decide) ?ss ?hh rfl (by decide) rfl rfl; (case ss => repeat (first | exact SubS.nil | refine SubS.cons rfl rfl ?_ | refine SubS.cons (congrArg (fun z => some (V.val (Value.int IntKind.i64 z))) (by omega)) rfl ?_ | refine SubS.cons (congrArg (fun z => some (V.val (Value.bool z))) (by assumption)) rfl ?_)); (case hh => repeat (first | exact SubH.nil | refine SubH.cons rfl rfl rfl ?_)))
      · refine VMv.one rfl rfl rfl rfl (by rfl) (by decide) (by decide) rfl (by rfl) (by rfl) ?_
        refine VAny.movesI (is := [12]) (by kernel_rfl) (by simp) rfl (all1 ?_)
        · refine VMv.load rfl rfl rfl (VLoad.hole rfl rfl rfl (by rfl) ⟨by rw [List.length_map]; exact hk, by decide⟩ rfl (by decide)) ?_
          refine VAny.movesI (is := [15]) (by kernel_rfl) (by simp) rfl (all1 ?_)
          · refine VMv.append (zs := (u.p ++ [q]).map encZ) rfl rfl rfl rfl (by rfl) (by decide) rfl (.arr rfl) rfl rfl (.arr rfl) (by simp only [List.length_append, List.length_cons, List.length_nil, List.length_map]; unfold most; omega) (by simp only [List.length_append, List.length_cons, List.length_nil, List.length_map]; unfold most; omega) rfl ( by rw [List.map_append]; rfl) ?_
            refine VAny.pureI (i := 16) rfl rfl (by kernel_rfl) rfl (VPure.idx_nest rfl rfl rfl rfl (by omega) (by rw [List.length_map]; omega)) ?_
            refine VAny.pureI (i := 17) rfl rfl (by kernel_rfl) rfl (VPure.field_nest rfl rfl rfl (by rw [List.length_map]; omega)) ?_
            refine VAny.movesI (is := [18]) (by kernel_rfl) (by simp) rfl (all1 ?_)
            · refine VMv.store_nest rfl rfl rfl rfl rfl rfl rfl rfl (by rfl) (⟨by rw [List.length_map]; exact hk, by decide⟩) (.inl ⟨_, rfl⟩) ?_
              refine VAny.done ?_
              (refine Less.mkx (l := [0, 1, 2, 5]) 2 hcx (by exact Nat.le_of_ble_eq_true rfl) (by decide) ?ss ?hh rfl (by decide) rfl rfl; (case ss => repeat (first | exact SubS.nil | refine SubS.cons rfl rfl ?_ | refine SubS.cons (congrArg (fun z => some (V.val (Value.int IntKind.i64 z))) (by omega)) rfl ?_ | refine SubS.cons (congrArg (fun z => some (V.val (Value.bool z))) (by assumption)) rfl ?_)); (case hh => repeat (first | exact SubH.nil | refine SubH.cons rfl rfl rfl ?_)))
    (repeat (first | ((with_reducible refine VOps.same ?_); (first | (refine VOps.nil ?_; try dsimp only [VThen, VBlock]) | refine VOps.vp (by rfl) (by kernel_rfl) (by rfl) (VPure.assign rfl rfl) ?_)) | refine VCode.seq ?_ | refine VCode.region rfl ?_))
    refine VCode.unfocus (id := 2) rfl rfl ⟨by rw [List.length_map]; exact hk, by decide⟩ (putN_map (u' := Nd.mk u.sym u.pos u.e (u.p ++ [q])) hu rfl) ?_
    refine VCode.ret ?_
    rw [e1, e2, e3, ha]
    (show Less cx _ _; refine Less.mkx (l := [0, 1, 4]) (st' := ⟨[(6, .val (.bool true))], [(0, .cells 28 [.ref 2]), (2, .nest 64 4 ((l.set k (Nd.mk u.sym u.pos u.e (u.p ++ [q]))).map rowR) none)], 3⟩) 2 hcx (Nat.le_of_ble_eq_true rfl) (by decide) ?ss ?hh rfl (by decide) rfl ⟨_, (.tmp rfl .nil), rfl, rfl, rfl⟩; (case ss => repeat (first | exact SubS.nil | refine SubS.cons rfl rfl ?_ | refine SubS.cons (congrArg (fun z => some (V.val (Value.int IntKind.i64 z))) (by omega)) rfl ?_ | refine SubS.cons (congrArg (fun z => some (V.val (Value.bool z))) (by assumption)) rfl ?_)); (case hh => repeat (first | exact SubH.nil | refine SubH.cons rfl rfl rfl ?_)))
end Go.Proofs.Ytdkgbkmaeeicoaa.V

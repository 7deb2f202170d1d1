/- stack: same. -/
import Derived.Test.YtdkgbkmaeeicoaaVSRefE
import Derived.Test.YtdkgbkmaeeicoaaVSOnce
set_option linter.unusedVariables false
set_option linter.unusedSimpArgs false
-- YtdkgbkmaeeicoaaVC
namespace Go.Proofs.Ytdkgbkmaeeicoaa.V
open Go Go.RowKit
section
variable {P : Program} {n : Nat} {cx : Cx} {ops : Array Oper} {K : St → Prop} {E : List PanicEntry → St → Prop} {i : Nat} {o : Oper} {dl pl pend q : List (Nat × Oper)} {m : List Nat} {s : List (Nat × V)} {h : Heap} {x dd : Nat} {ph : Bool}
theorem VAny.says {d : Nat} {v u : V} (hd : lk s d = some u) (e : u = v) (H : VAny P n cx ph m ops K E dl pl ⟨(d, v) :: s, h, x⟩) : VAny P n cx ph m ops K E dl pl ⟨s, h, x⟩ := fun hn hp g a w r => H hn hp g a w (r.same (over_same (by rw [hd, e])))
theorem VMv.gives {y : Operand} {xs : Array Operand} {ts : Array TypeId} {f : FuncId} {fn : Func} {vs : List V} {r : V} (he : cutAt i pend = some (o, dl, pl, q)) (ho : o.op = .call { callee := .value y, args := xs, argTypes := ts }) (hf : P.funcs[f]? = some fn) (hw : wantedV ops o s = some true) (hd : o.dst = some dd)
    (hb : fn.body.isSome = true) (hnm : (fn.name == "runtime.NumGoroutine") = false) (hx : ev s y = some (.fn f [])) (hv : evs s xs.toList = some vs) (ha : vs = V.renL (nm []) vs) (hl : V.ltL 0 vs = true) (hr : r.ren (rn [] x) = r) (hc : VCalls P f vs [] 0 (Gives r))
    (h2 : VAny P n cx false m ops K E [] q ⟨(dd, r) :: s, h, x⟩) : VMv P n cx m ops K E pend i ⟨s, h, x⟩ := VMv.oo he hw rfl hd (VOp.gives ho hf hb hnm hx hv ha hl hc hr) h2
end
theorem nodeOf_is (l : List Nd) (n : Int) : edgesOf l n = (nodeOf l n).e ∧ popsOf l n = (nodeOf l n).p := by
  unfold nodeOf
  cases h : hasB l n with
  | false => rw [(hasB_none h).1, (hasB_none h).2]; exact ⟨rfl, rfl⟩
  | true =>
    obtain ⟨k, u, rfl, hu, hk⟩ := hasB_some h
    rw [(of_some hu).1, (of_some hu).2, Int.toNat_natCast, hu]; exact ⟨rfl, rfl⟩
theorem nodeOf_few {l : List Nd} {c : Nat} (h : Few l c) (n : Int) : (nodeOf l n).e.length ≤ c ∧ (nodeOf l n).p.length ≤ c := by
  unfold nodeOf
  cases hb : hasB l n with
  | false => exact ⟨Nat.zero_le _, Nat.zero_le _⟩
  | true =>
    obtain ⟨k, u, rfl, hu, hk⟩ := hasB_some hb
    rw [Int.toNat_natCast, hu]
    exact few_all h u (List.mem_of_getElem? hu)
set_option maxHeartbeats 4000000 in
theorem same_v (l : List Nd) (n : Int) (hF : Few l 100000) : VCalls Try.prog 17 [.el [.sl 2 (l.map encNd)], .el [.sl 4 (l.map encRd)], .val (.int .i64 n)] [] 0 (Gives (.val (.bool true))) := by
  refine VCalls.enterD (n := 63) Try.func17 rfl rfl (by simp) rfl (fun cx hcx => ?_)
  obtain ⟨q1, q2⟩ := nodeOf_is l n
  obtain ⟨b1, b2⟩ := nodeOf_few hF n
  have hedges := edges_v l n (fun u hu => by have := few_all hF u hu; omega)
  have hpops := pops_v l n (fun u hu => by have := few_all hF u hu; omega)
  have hof := rof_v l n
  rw [q1] at hedges
  rw [q2] at hpops
  generalize nodeOf l n = u at hedges hpops hof b1 b2
  have hints := ints_v u.p u.p (by omega)
  rw [decide_eq_true rfl] at hints
  clear q1 q2
  (repeat (first | ((with_reducible refine VOps.same ?_); (first | (refine VOps.nil ?_; try dsimp only [VThen, VBlock]) | refine VOps.vp (by rfl) (by kernel_rfl) (by rfl) (VPure.move rfl rfl) ?_ | refine VOps.vp (by rfl) (by kernel_rfl) (by rfl) (VPure.assign rfl rfl) ?_)) | refine VCode.seq ?_ | refine VCode.region rfl ?_))
  refine VOps.gives rfl Try.func20 rfl (by kernel_rfl) rfl rfl rfl rfl rfl rfl rfl rfl (hedges) ?_
  (repeat (first | ((with_reducible refine VOps.same ?_); (first | refine VOps.vp (by rfl) (by kernel_rfl) (by rfl) (VPure.move rfl rfl) ?_))))
  refine VOps.gives rfl Try.func27 rfl (by kernel_rfl) rfl rfl rfl rfl rfl rfl rfl rfl (hof) ?_
  (repeat (first | ((with_reducible refine VOps.same ?_); (first | (refine VOps.nil ?_; try dsimp only [VThen, VBlock]) | refine VOps.vp (by rfl) (by kernel_rfl) (by rfl) (VPure.assign rfl rfl) ?_ | refine VOps.alloc rfl rfl (by kernel_rfl) rfl (by kernel_rfl) rfl ?_ | refine VOps.store rfl rfl (by kernel_rfl) rfl rfl rfl rfl rfl rfl (Nat.le_of_ble_eq_true (by rfl)) rfl ?_)) | refine VCode.seq ?_))
  refine VCode.thenTo ⟨[(30, .val (.bool false)), (7, .sl 2 (u.e.map encP)), (8, .ptr 0 0)], [(0, .cells 64 [.val (.int .i64 u.sym), .val (.int .i64 u.pos), .sl 2 (u.e.map encP), .sl 1 (u.p.map encZ)])], 1⟩ ?_ ?_
  · refine VCode.lessTo ⟨[(7, .sl 2 (u.e.map encP)), (8, .ptr 0 0), (0, .el [.sl 2 (l.map encNd)]), (2, .val (.int .i64 n))], [(0, .cells 64 [.val (.int .i64 u.sym), .val (.int .i64 u.pos), .sl 2 (u.e.map encP), .sl 1 (u.p.map encZ)])], 1⟩ ?_ ?_
    · (refine Less.mk (l := [0]) hcx ?ss ?hh rfl (by decide) rfl rfl; (case ss => repeat (first | exact SubS.nil | refine SubS.cons rfl rfl ?_ | refine SubS.cons (congrArg (fun z => some (V.val (Value.int IntKind.i64 z))) (by omega)) rfl ?_ | refine SubS.cons (congrArg (fun z => some (V.val (Value.bool z))) (by assumption)) rfl ?_)); (case hh => repeat (first | exact SubH.nil | refine SubH.cons rfl rfl rfl ?_)))
    refine VCode.drawAny [] (by kernel_rfl) rfl ?_
    refine VAny.pureI (i := 0) rfl rfl (by kernel_rfl) rfl (VPure.move rfl rfl) ?_
    refine VAny.pureI (i := 1) rfl rfl (by kernel_rfl) rfl (VPure.len_map TI.und' rfl rfl) ?_
    refine VAny.pureI (i := 2) rfl rfl (by kernel_rfl) rfl (VPure.field_ptr rfl rfl rfl) ?_
    refine VAny.loadI (i := 3) rfl rfl (by kernel_rfl) rfl (VLoad.box1 rfl rfl rfl rfl (by rfl) (by decide)) ?_
    refine VAny.pureI (i := 4) rfl rfl (by kernel_rfl) rfl (VPure.len_map TI.und' rfl rfl) ?_
    refine VAny.pureI (i := 5) rfl rfl (by kernel_rfl) rfl (VPure.nei rfl rfl rfl) ?_
    refine VAny.pureI (i := 6) rfl rfl (by kernel_rfl) rfl (VPure.move rfl rfl) ?_; refine VAny.says (d := 22) (v := .val (.bool false)) rfl (by simp) ?_
    refine VAny.pureI (i := 7) rfl rfl (by kernel_rfl) rfl (VPure.move rfl rfl) ?_
    refine VAny.pureI (i := 8) rfl rfl (by kernel_rfl) rfl (VPure.move rfl rfl) ?_
    refine VAny.pureI (i := 10) rfl rfl (by kernel_rfl) rfl (VPure.field_ptr rfl rfl rfl) ?_
    refine VAny.loadI (i := 11) rfl rfl (by kernel_rfl) rfl (VLoad.box1 rfl rfl rfl rfl (by rfl) (by decide)) ?_
    refine VAny.movesI (is := [9]) (by kernel_rfl) (by simp) rfl (all1 ?_)
    · refine VMv.gives rfl rfl Try.func21 rfl rfl rfl rfl rfl rfl rfl rfl rfl hpops ?_
      refine VAny.movesI (is := [12]) (by kernel_rfl) (by simp) rfl (all1 ?_)
      · refine VMv.pure rfl rfl Try.func22 rfl rfl rfl rfl rfl rfl rfl rfl (hints) ?_
        refine VAny.pureI (i := 13) rfl rfl (by kernel_rfl) rfl (VPure.not rfl rfl) ?_
        refine VAny.pureI (i := 14) rfl rfl (by kernel_rfl) rfl (VPure.pick_f rfl rfl rfl) ?_
        refine VAny.done ?_
        (refine Less.mk (l := [0]) hcx ?ss ?hh rfl (by decide) rfl rfl; (case ss => repeat (first | exact SubS.nil | refine SubS.cons rfl rfl ?_ | refine SubS.cons (congrArg (fun z => some (V.val (Value.int IntKind.i64 z))) (by omega)) rfl ?_ | refine SubS.cons (congrArg (fun z => some (V.val (Value.bool z))) (by assumption)) rfl ?_)); (case hh => repeat (first | exact SubH.nil | refine SubH.cons rfl rfl rfl ?_)))
  refine VCode.cond_f rfl rfl ?_
  (repeat (first | ((with_reducible refine VOps.same ?_); (first | (refine VOps.nil ?_; try dsimp only [VThen, VBlock]) | refine VOps.vp (by rfl) (by kernel_rfl) (by rfl) (VPure.assign rfl rfl) ?_)) | refine VCode.seq ?_ | refine VCode.region rfl ?_ | refine VCode.block ?_ | refine VCode.skip ?_))
  refine VCode.loop (fun m st => ∃ j : Nat, j ≤ u.e.length ∧ m = u.e.length - j ∧ st = ⟨[(9, .val (.int .i64 (j : Int))), (7, .sl 2 (u.e.map encP)), (8, .ptr 0 0)], [(0, .cells 64 [.val (.int .i64 u.sym), .val (.int .i64 u.pos), .sl 2 (u.e.map encP), .sl 1 (u.p.map encZ)])], 1⟩) u.e.length ?_ ?_
  · (refine Less.mk (l := [0]) hcx ?ss ?hh rfl (by decide) rfl ⟨0, by omega, by omega, rfl⟩; (case ss => repeat (first | exact SubS.nil | refine SubS.cons rfl rfl ?_ | refine SubS.cons (congrArg (fun z => some (V.val (Value.int IntKind.i64 z))) (by omega)) rfl ?_ | refine SubS.cons (congrArg (fun z => some (V.val (Value.bool z))) (by assumption)) rfl ?_)); (case hh => repeat (first | exact SubH.nil | refine SubH.cons rfl rfl rfl ?_)))
  rintro m st ⟨j, hj, rfl, rfl⟩
  cases ht : u.e[j]? with
  | some y =>
    have hlt : j < u.e.length := (List.getElem?_eq_some_iff.1 ht).1
    (repeat (first | ((with_reducible refine VOps.same ?_); (first | (refine VOps.nil ?_; try dsimp only [VThen, VBlock]) | refine VOps.vp (by rfl) (by kernel_rfl) (by rfl) (VPure.move rfl rfl) ?_ | refine VOps.vp (by rfl) (by kernel_rfl) (by rfl) (VPure.len_map TI.und' rfl rfl) ?_ | refine VOps.vp (by rfl) (by kernel_rfl) (by rfl) (VPure.lss rfl rfl rfl) ?_)) | refine VCode.seq ?_ | refine VCode.region rfl ?_))
    refine VCode.cond_t rfl (decide_eq_true (by omega)) ?_
    (repeat (first | ((with_reducible refine VOps.same ?_); (first | refine VOps.vp (by rfl) (by kernel_rfl) (by rfl) (VPure.move rfl rfl) ?_ | refine VOps.vp (by rfl) (by kernel_rfl) (by rfl) (VPure.idx_map rfl rfl rfl (by assumption)) ?_ | refine VOps.vp (by rfl) (by kernel_rfl) (by rfl) (VPure.field_el rfl rfl) ?_ | refine VOps.vp (by rfl) (by kernel_rfl) (by rfl) (VPure.field_ptr rfl rfl rfl) ?_ | refine VOps.vv (by rfl) (by kernel_rfl) (by rfl) (VLoad.el1 rfl rfl rfl (by rfl)) ?_ | refine VOps.vv (by rfl) (by kernel_rfl) (by rfl) (VLoad.box1 rfl rfl rfl rfl (by rfl) (by decide)) ?_ | refine VOps.vp (by rfl) (by kernel_rfl) (by rfl) (VPure.nei rfl rfl rfl) ?_)) | refine VCode.seq ?_ | refine VCode.draw [] rfl ?_ | refine VCode.block ?_ | refine VCode.skip ?_))
    refine VOps.says (d := 49) (v := .val (.bool false)) rfl (by simp) ?_
    (repeat (first | ((with_reducible refine VOps.same ?_); (first | (refine VOps.nil ?_; try dsimp only [VThen, VBlock]) | refine VOps.vp (by rfl) (by kernel_rfl) (by rfl) (VPure.move rfl rfl) ?_ | refine VOps.vp (by rfl) (by kernel_rfl) (by rfl) (VPure.idx_map rfl rfl rfl (by assumption)) ?_ | refine VOps.vp (by rfl) (by kernel_rfl) (by rfl) (VPure.field_el rfl rfl) ?_ | refine VOps.vp (by rfl) (by kernel_rfl) (by rfl) (VPure.field_ptr rfl rfl rfl) ?_ | refine VOps.vv (by rfl) (by kernel_rfl) (by rfl) (VLoad.el1 rfl rfl rfl (by rfl)) ?_ | refine VOps.vv (by rfl) (by kernel_rfl) (by rfl) (VLoad.box1 rfl rfl rfl rfl (by rfl) (by decide)) ?_ | refine VOps.vp (by rfl) (by kernel_rfl) (by rfl) (VPure.nei rfl rfl rfl) ?_ | refine VOps.vp (by rfl) (by kernel_rfl) (by rfl) (VPure.pick_f rfl rfl rfl) ?_))))
    refine VCode.cond_f rfl (by simp) ?_
    (repeat (first | ((with_reducible refine VOps.same ?_); (first | (refine VOps.nil ?_; try dsimp only [VThen, VBlock]) | refine VOps.vp (by rfl) (by kernel_rfl) (by rfl) (VPure.move rfl rfl) ?_ | refine VOps.vp (by rfl) (by kernel_rfl) (by rfl) (VPure.assign rfl rfl) ?_ | refine VOps.vp (by rfl) (by kernel_rfl) (by rfl) (VPure.addK rfl rfl rfl (by omega)) ?_)) | refine VCode.region rfl ?_ | refine VCode.skip ?_))
    (refine Less.mk (l := [0]) hcx ?ss ?hh rfl (by decide) rfl ⟨_, ?_, j + 1, by omega, rfl, rfl⟩; (case ss => repeat (first | exact SubS.nil | refine SubS.cons rfl rfl ?_ | refine SubS.cons (congrArg (fun z => some (V.val (Value.int IntKind.i64 z))) (by omega)) rfl ?_ | refine SubS.cons (congrArg (fun z => some (V.val (Value.bool z))) (by assumption)) rfl ?_)); (case hh => repeat (first | exact SubH.nil | refine SubH.cons rfl rfl rfl ?_)))
    omega
  | none =>
    have hge : u.e.length ≤ j := List.getElem?_eq_none_iff.1 ht
    (repeat (first | ((with_reducible refine VOps.same ?_); (first | (refine VOps.nil ?_; try dsimp only [VThen, VBlock]) | refine VOps.vp (by rfl) (by kernel_rfl) (by rfl) (VPure.move rfl rfl) ?_ | refine VOps.vp (by rfl) (by kernel_rfl) (by rfl) (VPure.len_map TI.und' rfl rfl) ?_ | refine VOps.vp (by rfl) (by kernel_rfl) (by rfl) (VPure.lss rfl rfl rfl) ?_)) | refine VCode.seq ?_ | refine VCode.region rfl ?_))
    refine VCode.cond_f rfl (decide_eq_false (by omega)) ?_
    (repeat (first | ((with_reducible refine VOps.same ?_); (first | (refine VOps.nil ?_; try dsimp only [VThen, VBlock]) | refine VOps.vp (by rfl) (by kernel_rfl) (by rfl) (VPure.assign rfl rfl) ?_)) | refine VCode.seq ?_ | refine VCode.region rfl ?_ | refine VCode.exit ?_))
    refine VCode.retD rfl rfl (.tmp rfl .nil) ?_
    rfl
end Go.Proofs.Ytdkgbkmaeeicoaa.V

/- close: CloseUnion. -/
import Derived.Test.YtbpjlpokmnmmmaaVCWakes
import Derived.Test.YtbpjlpokmnmmmaaVOpens
import Derived.Test.YtbpjlpokmnmmmaaVCWithin
set_option linter.unusedVariables false
set_option linter.unusedSimpArgs false
namespace Go.Proofs.Ytbpjlpokmnmmmaa.V
open Go Go.RowKit Go.Proofs.Ytbpjlpokmnmmmaa.CG
def uni (f : Int → List Int) (p : List Int) : List Int := p.flatMap f
theorem uni_succ {f : Int → List Int} {p : List Int} {i : Nat} {s : Int} (h : p[i]? = some s) : uni f (p.take (i + 1)) = uni f (p.take i) ++ f s := by
  unfold uni
  rw [List.take_add_one, h]; simp
theorem uni_len {f : Int → List Int} {m : Nat} (p : List Int) (h : ∀ s, (f s).length ≤ m) : (uni f p).length ≤ m * p.length := by
  unfold uni
  induction p with
  | nil => simp
  | cons s p ih =>
    have := h s
    rw [List.flatMap_cons, List.length_append, List.length_cons, Nat.mul_succ]
    omega
theorem uni_mem {f : Int → List Int} {p : List Int} {x : Int} : x ∈ uni f p ↔ ∃ s ∈ p, x ∈ f s := by
  unfold uni; exact List.mem_flatMap
theorem cut_one {p : List Int} {i : Nat} {s : Int} (h : p[i]? = some s) : ((p.map encZ).take (i + 1)).drop i = [s].map encZ := by
  have hlt : i < p.length := (List.getElem?_eq_some_iff.1 h).1
  rw [List.take_add_one, List.getElem?_map, h, List.drop_append_of_le_length (by simp; omega), List.drop_of_length_le (by simp; omega)]; rfl
set_option maxHeartbeats 4000000 in
theorem union_v (n : Net) (l : List Int) (c : Int) (hn : n.length ≤ 140737488355328) (hl : l.length ≤ 140737488355328) (hu : ∀ k ∈ l, 0 ≤ k ∧ k < 65536) (hc : 0 ≤ c ∧ c < 256) : VCalls Try.prog 5 [netV n, .sl 1 (l.map encU), .val (.int .u8 c)] [] 0 (Gives (.val (.bool true))) := by
  have hc64 : (Lit.int .i64 c).wf = true := by simp [Lit.wf, IntKind.min, IntKind.max, IntKind.signed, IntKind.bits]; omega
  refine VCalls.enterD (n := 189) Try.func5 rfl rfl (by simp) rfl (fun cx hcx => ?_)
  (repeat (first | ((with_reducible refine VOps.same ?_); (first | (refine VOps.nil ?_; try dsimp only [VThen, VBlock]) | refine VOps.vp (by rfl) (by kernel_rfl) (by rfl) (VPure.assign rfl rfl) ?_ | refine VOps.vp (by rfl) (by kernel_rfl) (by rfl) (VPure.field_ptr rfl rfl rfl) ?_ | refine VOps.vv (by rfl) (by kernel_rfl) (by rfl) (VLoad.box1 rfl rfl rfl rfl (by rfl) (by decide)) ?_ | refine VOps.box rfl rfl (by kernel_rfl) rfl rfl rfl rfl ?_)) | refine VCode.seq ?_ | refine VCode.region rfl ?_))
  refine VOps.pure rfl Try.func7 rfl (by kernel_rfl) rfl rfl rfl rfl rfl rfl rfl (large_v n 2000 (by decide) hn) ?_
  (repeat (first | ((with_reducible refine VOps.same ?_); (first | refine VOps.vp (by rfl) (by kernel_rfl) (by rfl) (VPure.move rfl rfl) ?_))))
  refine VOps.bool (d := 29) rfl (fun h1 => ?_) (fun h1 => ?_)
  · (repeat (first | ((with_reducible refine VOps.same ?_); (first | (refine VOps.nil ?_; try dsimp only [VThen, VBlock]) | refine VOps.vp (by rfl) (by kernel_rfl) (by rfl) (VPure.move rfl rfl) ?_ | refine VOps.vp (by rfl) (by kernel_rfl) (by rfl) (VPure.pick_t rfl rfl rfl) ?_ | refine VOps.passv rfl (by kernel_rfl) rfl ?_))))
    refine VCode.cond_t rfl rfl ?_
    (repeat (first | refine VCode.seq ?_ | refine VCode.region rfl ?_))
    refine VOps.pure rfl Try.func8 rfl (by kernel_rfl) rfl rfl rfl rfl rfl rfl rfl (wakes_v) ?_
    (repeat (first | ((with_reducible refine VOps.same ?_); (first | (refine VOps.nil ?_; try dsimp only [VThen, VBlock]) | refine VOps.vp (by rfl) (by kernel_rfl) (by rfl) (VPure.assign rfl rfl) ?_))))
    refine VCode.retD rfl rfl (.tmp rfl .nil) ?_
    rfl
  have hw := weight_small (most := 2000) n (by have := of_decide_eq_false h1; omega)
  (repeat (first | ((with_reducible refine VOps.same ?_); (first | refine VOps.vv (by rfl) (by kernel_rfl) (by rfl) (VLoad.boxA rfl rfl rfl (by rfl) (Nat.le_of_ble_eq_true (by rfl)) (by decide)) ?_))))
  refine VOps.pure rfl Try.func20 rfl (by kernel_rfl) rfl rfl rfl rfl rfl rfl rfl (rgood_v n (by omega) (by omega)) ?_
  (repeat (first | ((with_reducible refine VOps.same ?_); (first | refine VOps.vp (by rfl) (by kernel_rfl) (by rfl) (VPure.move rfl rfl) ?_ | refine VOps.vp (by rfl) (by kernel_rfl) (by rfl) (VPure.not rfl rfl) ?_ | refine VOps.vp (by rfl) (by kernel_rfl) (by rfl) (VPure.pick_f rfl rfl rfl) ?_))))
  refine VOps.bool (d := 34) rfl (fun h2 => ?_) (fun h2 => ?_)
  · (repeat (first | ((with_reducible refine VOps.same ?_); (first | (refine VOps.nil ?_; try dsimp only [VThen, VBlock]) | refine VOps.vp (by rfl) (by kernel_rfl) (by rfl) (VPure.pick_t rfl rfl rfl) ?_ | refine VOps.passv rfl (by kernel_rfl) rfl ?_))))
    refine VCode.cond_t rfl rfl ?_
    (repeat (first | refine VCode.seq ?_ | refine VCode.region rfl ?_))
    refine VOps.pure rfl Try.func8 rfl (by kernel_rfl) rfl rfl rfl rfl rfl rfl rfl (wakes_v) ?_
    (repeat (first | ((with_reducible refine VOps.same ?_); (first | (refine VOps.nil ?_; try dsimp only [VThen, VBlock]) | refine VOps.vp (by rfl) (by kernel_rfl) (by rfl) (VPure.assign rfl rfl) ?_))))
    refine VCode.retD rfl rfl (.tmp rfl .nil) ?_
    rfl
  have hg : goodNet n = true := by simpa using h2
  obtain ⟨g1, g2, g3, g4, g5⟩ := good_edges hg
  (repeat (first | ((with_reducible refine VOps.same ?_); (first | (refine VOps.nil ?_; try dsimp only [VThen, VBlock]) | refine VOps.vp (by rfl) (by kernel_rfl) (by rfl) (VPure.move rfl rfl) ?_ | refine VOps.vp (by rfl) (by kernel_rfl) (by rfl) (VPure.len_map TI.und' rfl rfl) ?_ | refine VOps.vp (by rfl) (by kernel_rfl) (by rfl) (VPure.gtr rfl rfl rfl) ?_ | refine VOps.vp (by rfl) (by kernel_rfl) (by rfl) (VPure.pick_f rfl rfl rfl) ?_))))
  refine VCode.cond rfl (fun h3 => ?_) (fun h3 => ?_)
  · skip
    (repeat (first | refine VCode.seq ?_ | refine VCode.region rfl ?_))
    refine VOps.pure rfl Try.func8 rfl (by kernel_rfl) rfl rfl rfl rfl rfl rfl rfl (wakes_v) ?_
    (repeat (first | ((with_reducible refine VOps.same ?_); (first | (refine VOps.nil ?_; try dsimp only [VThen, VBlock]) | refine VOps.vp (by rfl) (by kernel_rfl) (by rfl) (VPure.assign rfl rfl) ?_))))
    refine VCode.retD rfl rfl (.tmp rfl .nil) ?_
    rfl
  have h3 : l.length ≤ 40 := by have := of_decide_eq_false h3; omega
  have hkk : 0 ≤ c % 6 ∧ c % 6 < 6 := by omega
  (repeat (first | ((with_reducible refine VOps.same ?_); (first | (refine VOps.nil ?_; try dsimp only [VThen, VBlock]) | refine VOps.vp (by rfl) (by kernel_rfl) (by rfl) (VPure.assign rfl rfl) ?_)) | refine VCode.seq ?_ | refine VCode.region rfl ?_ | refine VCode.block ?_ | refine VCode.skip ?_))
  refine VCode.nilObj 7 3 1 rfl ?_
  refine VCode.loop (fun m st => ∃ i : Nat, i ≤ l.length ∧ m = l.length - i ∧ st = ⟨[(8, .val (.int .i64 (i : Int))), (1, .sl 1 (l.map encU)), (2, .val (.int .u8 c)), (3, .ptr 0 0), (7, .ref 1)], [(0, .cells 24 [.sl 1 (n.map encL)]), (1, .arr 3 1 ((pOf n (l.take i)).map encZ))], 2⟩) l.length ?_ ?_
  · (refine Less.mk (l := [0, 1]) hcx ?ss ?hh rfl (by decide) rfl ⟨0, by omega, by omega, rfl⟩; (case ss => repeat (first | exact SubS.nil | refine SubS.cons rfl rfl ?_ | refine SubS.cons (congrArg (fun z => some (V.val (Value.int IntKind.i64 z))) (by omega)) rfl ?_ | refine SubS.cons (congrArg (fun z => some (V.val (Value.bool z))) (by assumption)) rfl ?_)); (case hh => repeat (first | exact SubH.nil | refine SubH.cons rfl rfl rfl ?_)))
  rintro m st ⟨i, hi, rfl, rfl⟩
  have hpl : (pOf n (l.take i)).length ≤ 40 := by unfold pOf; rw [List.length_map, List.length_take]; omega
  cases ht : l[i]? with
  | some k =>
    have hlt : i < l.length := (List.getElem?_eq_some_iff.1 ht).1
    obtain ⟨hk0, hk1⟩ := hu k (List.mem_of_getElem? ht)
    have hk64 : (Lit.int .i64 k).wf = true := by simp [Lit.wf, IntKind.min, IntKind.max, IntKind.signed, IntKind.bits]; omega
    have hps := pOf_succ (n := n) ht
    (repeat (first | ((with_reducible refine VOps.same ?_); (first | (refine VOps.nil ?_; try dsimp only [VThen, VBlock]) | refine VOps.vp (by rfl) (by kernel_rfl) (by rfl) (VPure.move rfl rfl) ?_ | refine VOps.vp (by rfl) (by kernel_rfl) (by rfl) (VPure.len_map TI.und' rfl rfl) ?_ | refine VOps.vp (by rfl) (by kernel_rfl) (by rfl) (VPure.lss rfl rfl rfl) ?_)) | refine VCode.seq ?_ | refine VCode.region rfl ?_))
    refine VCode.cond_t rfl (decide_eq_true (by omega)) ?_
    (repeat (first | refine VCode.seq ?_ | refine VCode.block ?_ | refine VCode.skip ?_))
    refine VCode.draw [1] rfl ?_
    (repeat (first | ((with_reducible refine VOps.same ?_); (first | refine VOps.vp (by rfl) (by kernel_rfl) (by rfl) (VPure.move rfl rfl) ?_ | refine VOps.vp (by rfl) (by kernel_rfl) (by rfl) (VPure.len_map TI.und' rfl rfl) ?_ | refine VOps.vp (by rfl) (by kernel_rfl) (by rfl) (VPure.idx_map rfl rfl rfl (by assumption)) ?_ | refine VOps.vp (by rfl) (by kernel_rfl) (by rfl) (VPure.field_ptr rfl rfl rfl) ?_ | refine VOps.vv (by rfl) (by kernel_rfl) (by rfl) (VLoad.el1 rfl rfl rfl (by rfl)) ?_ | refine VOps.vv (by rfl) (by kernel_rfl) (by rfl) (VLoad.box1 rfl rfl rfl rfl (by rfl) (by decide)) ?_ | refine VOps.vp (by rfl) (by kernel_rfl) (by rfl) (VPure.rem rfl rfl rfl (by omega) (by omega)) ?_ | refine VOps.vp (by rfl) (by kernel_rfl) (by rfl) (VPure.convK TI.und' TI.und' rfl rfl (by assumption)) ?_ | refine VOps.one rfl rfl (by kernel_rfl) rfl (by rfl) (by decide) (by decide) rfl (by rfl) (by rfl) ?_))))
    refine VOps.append (zs := (pOf n (l.take (i + 1))).map encZ) rfl rfl (by kernel_rfl) rfl (by rfl) (by decide) rfl (.arr rfl) rfl (.arr rfl) (by simp only [List.length_append, List.length_cons, List.length_nil, List.length_map]; unfold most; omega) (by simp only [List.length_append, List.length_cons, List.length_nil, List.length_map]; unfold most; omega) rfl ( by rw [hps, List.map_append]; rfl) ?_
    (repeat (first | ((with_reducible refine VOps.same ?_); (first | (refine VOps.nil ?_; try dsimp only [VThen, VBlock]) | refine VOps.vp (by rfl) (by kernel_rfl) (by rfl) (VPure.move rfl rfl) ?_ | refine VOps.vp (by rfl) (by kernel_rfl) (by rfl) (VPure.assign rfl rfl) ?_ | refine VOps.vp (by rfl) (by kernel_rfl) (by rfl) (VPure.addK rfl rfl rfl (by omega)) ?_)) | refine VCode.region rfl ?_))
    (refine Less.mk (l := [0, 3]) hcx ?ss ?hh rfl (by decide) rfl ⟨_, ?_, i + 1, by omega, rfl, rfl⟩; (case ss => repeat (first | exact SubS.nil | refine SubS.cons rfl rfl ?_ | refine SubS.cons (congrArg (fun z => some (V.val (Value.int IntKind.i64 z))) (by omega)) rfl ?_ | refine SubS.cons (congrArg (fun z => some (V.val (Value.bool z))) (by assumption)) rfl ?_)); (case hh => repeat (first | exact SubH.nil | refine SubH.cons rfl rfl rfl ?_)))
    omega
  | none =>
    have hge : l.length ≤ i := List.getElem?_eq_none_iff.1 ht
    obtain rfl : i = l.length := by omega
    rw [List.take_length] at *
    clear hi
    (repeat (first | ((with_reducible refine VOps.same ?_); (first | (refine VOps.nil ?_; try dsimp only [VThen, VBlock]) | refine VOps.vp (by rfl) (by kernel_rfl) (by rfl) (VPure.move rfl rfl) ?_ | refine VOps.vp (by rfl) (by kernel_rfl) (by rfl) (VPure.len_map TI.und' rfl rfl) ?_ | refine VOps.vp (by rfl) (by kernel_rfl) (by rfl) (VPure.lss rfl rfl rfl) ?_)) | refine VCode.seq ?_ | refine VCode.region rfl ?_))
    refine VCode.cond_f rfl (decide_eq_false (by omega)) ?_
    refine VCode.freeze (id := 1) rfl ?_
    have hp : mayB n (pOf n l) = true := pOf_may (l := l) hg
    generalize pOf n l = p at *
    (repeat (first | ((with_reducible refine VOps.same ?_); (first | (refine VOps.nil ?_; try dsimp only [VThen, VBlock]) | refine VOps.vp (by rfl) (by kernel_rfl) (by rfl) (VPure.move rfl rfl) ?_ | refine VOps.vp (by rfl) (by kernel_rfl) (by rfl) (VPure.assign rfl rfl) ?_ | refine VOps.vv (by rfl) (by kernel_rfl) (by rfl) (VLoad.boxA rfl rfl rfl (by rfl) (Nat.le_of_ble_eq_true (by rfl)) (by decide)) ?_ | refine VOps.vp (by rfl) (by kernel_rfl) (by rfl) (VPure.rem rfl rfl rfl (by omega) (by omega)) ?_ | refine VOps.vp (by rfl) (by kernel_rfl) (by rfl) (VPure.convK TI.und' TI.und' rfl rfl (by assumption)) ?_)) | refine VCode.seq ?_ | refine VCode.region rfl ?_ | refine VCode.exit ?_))
    generalize hk : c % 6 = k at *
    have hsm : ∀ q, mayB n (stepTo n q k) = true := fun q => stepTo_may hg
    have o1 := of_v n p (by omega) (by omega) (by omega)
    have o2 := step_v n p k (by omega) (by omega) (by omega)
    have o3 := labels_v n p (by omega) (by omega) (by omega)
    rw [of_is hp] at o1
    rw [step_is hkk.1 hp] at o2
    rw [labels_is hp] at o3
    have ha := closI_len n p
    have hb := closI_len n (stepTo n p k)
    have hz := labels_len hg p
    refine VOps.gives rfl Try.func10 rfl (by kernel_rfl) rfl rfl rfl rfl rfl rfl rfl rfl (o1) ?_
    (repeat (first | ((with_reducible refine VOps.same ?_); (first | (refine VOps.nil ?_; try dsimp only [VThen, VBlock]) | refine VOps.vp (by rfl) (by kernel_rfl) (by rfl) (VPure.move rfl rfl) ?_ | refine VOps.vp (by rfl) (by kernel_rfl) (by rfl) (VPure.assign rfl rfl) ?_ | refine VOps.vp (by rfl) (by kernel_rfl) (by rfl) (VPure.extract rfl rfl rfl) ?_ | refine VOps.vv (by rfl) (by kernel_rfl) (by rfl) (VLoad.boxA rfl rfl rfl (by rfl) (Nat.le_of_ble_eq_true (by rfl)) (by decide)) ?_)) | refine VCode.seq ?_ | refine VCode.region rfl ?_))
    refine VOps.gives rfl Try.func11 rfl (by kernel_rfl) rfl rfl rfl rfl rfl rfl rfl rfl (o2) ?_
    (repeat (first | ((with_reducible refine VOps.same ?_); (first | (refine VOps.nil ?_; try dsimp only [VThen, VBlock]) | refine VOps.vp (by rfl) (by kernel_rfl) (by rfl) (VPure.move rfl rfl) ?_ | refine VOps.vp (by rfl) (by kernel_rfl) (by rfl) (VPure.assign rfl rfl) ?_ | refine VOps.vp (by rfl) (by kernel_rfl) (by rfl) (VPure.extract rfl rfl rfl) ?_ | refine VOps.vv (by rfl) (by kernel_rfl) (by rfl) (VLoad.boxA rfl rfl rfl (by rfl) (Nat.le_of_ble_eq_true (by rfl)) (by decide)) ?_)) | refine VCode.seq ?_ | refine VCode.region rfl ?_))
    refine VOps.gives rfl Try.func12 rfl (by kernel_rfl) rfl rfl rfl rfl rfl rfl rfl rfl (o3) ?_
    (repeat (first | ((with_reducible refine VOps.same ?_); (first | (refine VOps.nil ?_; try dsimp only [VThen, VBlock]) | refine VOps.vp (by rfl) (by kernel_rfl) (by rfl) (VPure.move rfl rfl) ?_ | refine VOps.vp (by rfl) (by kernel_rfl) (by rfl) (VPure.assign rfl rfl) ?_ | refine VOps.vp (by rfl) (by kernel_rfl) (by rfl) (VPure.extract rfl rfl rfl) ?_ | refine VOps.vp (by rfl) (by kernel_rfl) (by rfl) (VPure.nei rfl rfl rfl) ?_ | refine VOps.vp (by rfl) (by kernel_rfl) (by rfl) (VPure.pick_f rfl rfl rfl) ?_)) | refine VCode.seq ?_ | refine VCode.region rfl ?_))
    refine VCode.cond_f rfl rfl ?_
    (repeat (first | ((with_reducible refine VOps.same ?_); (first | (refine VOps.nil ?_; try dsimp only [VThen, VBlock]) | refine VOps.vp (by rfl) (by kernel_rfl) (by rfl) (VPure.assign rfl rfl) ?_)) | refine VCode.seq ?_ | refine VCode.region rfl ?_ | refine VCode.block ?_ | refine VCode.skip ?_))
    refine VCode.nilObj 16 3 1 rfl ?_
    refine VCode.nilObj 17 3 1 rfl ?_
    refine VCode.nilObj 18 3 1 rfl ?_
    refine VCode.loop (fun m st => ∃ i : Nat, i ≤ p.length ∧ m = p.length - i ∧ st = ⟨[(19, .val (.int .i64 (i : Int))), (3, .ptr 0 0), (7, .sl 1 (p.map encZ)), (9, .val (.int .i64 k)), (10, .sl 1 ((closI n p).map encZ)), (12, .sl 1 ((closI n (stepTo n p k)).map encZ)), (14, .sl 1 ((labels n p).map encZ)), (16, .ref 1), (17, .ref 2), (18, .ref 3)], [(0, .cells 24 [.sl 1 (n.map encL)]), (1, .arr 3 1 ((uni (fun s => closI n [s]) (p.take i)).map encZ)), (2, .arr 3 1 ((uni (fun s => closI n (stepTo n [s] k)) (p.take i)).map encZ)), (3, .arr 3 1 ((uni (fun s => labels n [s]) (p.take i)).map encZ))], 4⟩) p.length ?_ ?_
    · (refine Less.mk (l := [0, 2, 3, 4]) hcx ?ss ?hh rfl (by decide) rfl ⟨0, by omega, by omega, rfl⟩; (case ss => repeat (first | exact SubS.nil | refine SubS.cons rfl rfl ?_ | refine SubS.cons (congrArg (fun z => some (V.val (Value.int IntKind.i64 z))) (by omega)) rfl ?_ | refine SubS.cons (congrArg (fun z => some (V.val (Value.bool z))) (by assumption)) rfl ?_)); (case hh => repeat (first | exact SubH.nil | refine SubH.cons rfl rfl rfl ?_)))
    rintro m st ⟨i, hi, rfl, rfl⟩
    have hx := uni_len (p.take i) (f := fun s => closI n [s]) (fun s => closI_len n [s])
    have hy := uni_len (p.take i) (f := fun s => closI n (stepTo n [s] k)) (fun s => closI_len n (stepTo n [s] k))
    have hz2 := uni_len (p.take i) (m := 8000) (f := fun s => labels n [s]) (fun s => by have := labels_len hg [s]; simpa using this)
    have hti : (p.take i).length ≤ 40 := by rw [List.length_take]; omega
    have hx := Nat.le_trans hx (Nat.mul_le_mul (show n.length + 1 ≤ 2001 by omega) hti)
    have hy := Nat.le_trans hy (Nat.mul_le_mul (show n.length + 1 ≤ 2001 by omega) hti)
    have hz2 := Nat.le_trans hz2 (Nat.mul_le_mul (Nat.le_refl 8000) hti)
    cases hv : p[i]? with
    | some s =>
      have hlt : i < p.length := (List.getElem?_eq_some_iff.1 hv).1
      have hs1 := may_one hp (List.mem_of_getElem? hv)
      have hcut := cut_one hv
      have e1 := uni_succ (f := fun s => closI n [s]) hv
      have e2 := uni_succ (f := fun s => closI n (stepTo n [s] k)) hv
      have e3 := uni_succ (f := fun s => labels n [s]) hv
      have o4 := of_v n [s] (by omega) (by omega) (by simp)
      have o5 := step_v n [s] k (by omega) (by omega) (by simp)
      have o6 := labels_v n [s] (by omega) (by omega) (by simp)
      rw [of_is hs1] at o4
      rw [step_is hkk.1 hs1] at o5
      rw [labels_is hs1] at o6
      have l4 := closI_len n [s]
      have l5 := closI_len n (stepTo n [s] k)
      have l6 := labels_len hg [s]
      rw [List.length_singleton] at l6
      (repeat (first | ((with_reducible refine VOps.same ?_); (first | (refine VOps.nil ?_; try dsimp only [VThen, VBlock]) | refine VOps.vp (by rfl) (by kernel_rfl) (by rfl) (VPure.move rfl rfl) ?_ | refine VOps.vp (by rfl) (by kernel_rfl) (by rfl) (VPure.len_map TI.und' rfl rfl) ?_ | refine VOps.vp (by rfl) (by kernel_rfl) (by rfl) (VPure.lss rfl rfl rfl) ?_)) | refine VCode.seq ?_ | refine VCode.region rfl ?_))
      refine VCode.cond_t rfl (decide_eq_true (by omega)) ?_
      (repeat (first | ((with_reducible refine VOps.same ?_); (first | refine VOps.vp (by rfl) (by kernel_rfl) (by rfl) (VPure.move rfl rfl) ?_ | refine VOps.vv (by rfl) (by kernel_rfl) (by rfl) (VLoad.boxA rfl rfl rfl (by rfl) (Nat.le_of_ble_eq_true (by rfl)) (by decide)) ?_ | refine VOps.vp (by rfl) (by kernel_rfl) (by rfl) (VPure.addK rfl rfl rfl (by omega)) ?_)) | refine VCode.seq ?_ | refine VCode.draw [] rfl ?_ | refine VCode.block ?_ | refine VCode.skip ?_))
      refine VOps.vp (by rfl) (by kernel_rfl) (by rfl) (VPure.cut_sl (l := (i : Int)) (h := (i : Int) + 1) rfl rfl (.some rfl) (.some rfl) (by omega) (by omega) (by rw [List.length_map]; omega)) ?_
      refine VOps.says (d := 102) (v := .sl 1 ([s].map encZ)) rfl (by rw [show ((i : Int) + 1).toNat = i + 1 by omega, Int.toNat_natCast, hcut]) ?_
      skip
      refine VOps.gives rfl Try.func10 rfl (by kernel_rfl) rfl rfl rfl rfl rfl rfl rfl rfl (o4) ?_
      (repeat (first | ((with_reducible refine VOps.same ?_); (first | (refine VOps.nil ?_; try dsimp only [VThen, VBlock]) | refine VOps.vp (by rfl) (by kernel_rfl) (by rfl) (VPure.move rfl rfl) ?_ | refine VOps.vp (by rfl) (by kernel_rfl) (by rfl) (VPure.assign rfl rfl) ?_ | refine VOps.vp (by rfl) (by kernel_rfl) (by rfl) (VPure.extract rfl rfl rfl) ?_ | refine VOps.vv (by rfl) (by kernel_rfl) (by rfl) (VLoad.boxA rfl rfl rfl (by rfl) (Nat.le_of_ble_eq_true (by rfl)) (by decide)) ?_ | refine VOps.vp (by rfl) (by kernel_rfl) (by rfl) (VPure.addK rfl rfl rfl (by omega)) ?_)) | refine VCode.seq ?_ | refine VCode.draw [] rfl ?_))
      refine VOps.vp (by rfl) (by kernel_rfl) (by rfl) (VPure.cut_sl (l := (i : Int)) (h := (i : Int) + 1) rfl rfl (.some rfl) (.some rfl) (by omega) (by omega) (by rw [List.length_map]; omega)) ?_
      refine VOps.says (d := 112) (v := .sl 1 ([s].map encZ)) rfl (by rw [show ((i : Int) + 1).toNat = i + 1 by omega, Int.toNat_natCast, hcut]) ?_
      (repeat (first | ((with_reducible refine VOps.same ?_); (first | refine VOps.vp (by rfl) (by kernel_rfl) (by rfl) (VPure.move rfl rfl) ?_))))
      refine VOps.gives rfl Try.func11 rfl (by kernel_rfl) rfl rfl rfl rfl rfl rfl rfl rfl (o5) ?_
      (repeat (first | ((with_reducible refine VOps.same ?_); (first | (refine VOps.nil ?_; try dsimp only [VThen, VBlock]) | refine VOps.vp (by rfl) (by kernel_rfl) (by rfl) (VPure.move rfl rfl) ?_ | refine VOps.vp (by rfl) (by kernel_rfl) (by rfl) (VPure.assign rfl rfl) ?_ | refine VOps.vp (by rfl) (by kernel_rfl) (by rfl) (VPure.extract rfl rfl rfl) ?_ | refine VOps.vv (by rfl) (by kernel_rfl) (by rfl) (VLoad.boxA rfl rfl rfl (by rfl) (Nat.le_of_ble_eq_true (by rfl)) (by decide)) ?_ | refine VOps.vp (by rfl) (by kernel_rfl) (by rfl) (VPure.addK rfl rfl rfl (by omega)) ?_)) | refine VCode.seq ?_ | refine VCode.draw [] rfl ?_))
      refine VOps.vp (by rfl) (by kernel_rfl) (by rfl) (VPure.cut_sl (l := (i : Int)) (h := (i : Int) + 1) rfl rfl (.some rfl) (.some rfl) (by omega) (by omega) (by rw [List.length_map]; omega)) ?_
      refine VOps.says (d := 123) (v := .sl 1 ([s].map encZ)) rfl (by rw [show ((i : Int) + 1).toNat = i + 1 by omega, Int.toNat_natCast, hcut]) ?_
      skip
      refine VOps.gives rfl Try.func12 rfl (by kernel_rfl) rfl rfl rfl rfl rfl rfl rfl rfl (o6) ?_
      (repeat (first | ((with_reducible refine VOps.same ?_); (first | (refine VOps.nil ?_; try dsimp only [VThen, VBlock]) | refine VOps.vp (by rfl) (by kernel_rfl) (by rfl) (VPure.move rfl rfl) ?_ | refine VOps.vp (by rfl) (by kernel_rfl) (by rfl) (VPure.assign rfl rfl) ?_ | refine VOps.vp (by rfl) (by kernel_rfl) (by rfl) (VPure.extract rfl rfl rfl) ?_ | refine VOps.vp (by rfl) (by kernel_rfl) (by rfl) (VPure.nei rfl rfl rfl) ?_ | refine VOps.vp (by rfl) (by kernel_rfl) (by rfl) (VPure.pick_f rfl rfl rfl) ?_)) | refine VCode.seq ?_ | refine VCode.region rfl ?_))
      refine VCode.cond_f rfl rfl ?_
      (repeat (first | ((with_reducible refine VOps.same ?_); (first | refine VOps.vp (by rfl) (by kernel_rfl) (by rfl) (VPure.move rfl rfl) ?_)) | refine VCode.region rfl ?_ | refine VCode.skip ?_))
      refine VOps.append (zs := (uni (fun s => closI n [s]) (p.take (i + 1))).map encZ) rfl rfl (by kernel_rfl) rfl (by rfl) (by decide) rfl (.arr rfl) rfl (.sl) (by simp only [List.length_append, List.length_cons, List.length_nil, List.length_map]; unfold most; omega) (by simp only [List.length_append, List.length_cons, List.length_nil, List.length_map]; unfold most; omega) rfl ( by rw [e1, List.map_append]) ?_
      (repeat (first | ((with_reducible refine VOps.same ?_); (first | refine VOps.vp (by rfl) (by kernel_rfl) (by rfl) (VPure.move rfl rfl) ?_))))
      refine VOps.append (zs := (uni (fun s => closI n (stepTo n [s] k)) (p.take (i + 1))).map encZ) rfl rfl (by kernel_rfl) rfl (by rfl) (by decide) rfl (.arr rfl) rfl (.sl) (by simp only [List.length_append, List.length_cons, List.length_nil, List.length_map]; unfold most; omega) (by simp only [List.length_append, List.length_cons, List.length_nil, List.length_map]; unfold most; omega) rfl ( by rw [e2, List.map_append]) ?_
      (repeat (first | ((with_reducible refine VOps.same ?_); (first | refine VOps.vp (by rfl) (by kernel_rfl) (by rfl) (VPure.move rfl rfl) ?_))))
      refine VOps.append (zs := (uni (fun s => labels n [s]) (p.take (i + 1))).map encZ) rfl rfl (by kernel_rfl) rfl (by rfl) (by decide) rfl (.arr rfl) rfl (.sl) (by simp only [List.length_append, List.length_cons, List.length_nil, List.length_map]; unfold most; omega) (by simp only [List.length_append, List.length_cons, List.length_nil, List.length_map]; unfold most; omega) rfl ( by rw [e3, List.map_append]) ?_
      (repeat (first | ((with_reducible refine VOps.same ?_); (first | (refine VOps.nil ?_; try dsimp only [VThen, VBlock]) | refine VOps.vp (by rfl) (by kernel_rfl) (by rfl) (VPure.move rfl rfl) ?_ | refine VOps.vp (by rfl) (by kernel_rfl) (by rfl) (VPure.assign rfl rfl) ?_ | refine VOps.vp (by rfl) (by kernel_rfl) (by rfl) (VPure.addK rfl rfl rfl (by omega)) ?_)) | refine VCode.region rfl ?_))
      (refine Less.mk (l := [0, 4, 5, 6]) hcx ?ss ?hh rfl (by decide) rfl ⟨_, ?_, i + 1, by omega, rfl, rfl⟩; (case ss => repeat (first | exact SubS.nil | refine SubS.cons rfl rfl ?_ | refine SubS.cons (congrArg (fun z => some (V.val (Value.int IntKind.i64 z))) (by omega)) rfl ?_ | refine SubS.cons (congrArg (fun z => some (V.val (Value.bool z))) (by assumption)) rfl ?_)); (case hh => repeat (first | exact SubH.nil | refine SubH.cons rfl rfl rfl ?_)))
      omega
    | none =>
      have hge : p.length ≤ i := List.getElem?_eq_none_iff.1 hv
      obtain rfl : i = p.length := by omega
      rw [List.take_length] at *
      (repeat (first | ((with_reducible refine VOps.same ?_); (first | (refine VOps.nil ?_; try dsimp only [VThen, VBlock]) | refine VOps.vp (by rfl) (by kernel_rfl) (by rfl) (VPure.move rfl rfl) ?_ | refine VOps.vp (by rfl) (by kernel_rfl) (by rfl) (VPure.len_map TI.und' rfl rfl) ?_ | refine VOps.vp (by rfl) (by kernel_rfl) (by rfl) (VPure.lss rfl rfl rfl) ?_)) | refine VCode.seq ?_ | refine VCode.region rfl ?_))
      refine VCode.cond_f rfl (decide_eq_false (by omega)) ?_
      refine VCode.freeze (id := 1) rfl ?_
      refine VCode.freeze (id := 2) rfl ?_
      refine VCode.freeze (id := 3) rfl ?_
      have t1 : allB (closI n p) (uni (fun s => closI n [s]) p) = true := allB_true (fun x hx => uni_mem.2 ((closI_union hp x).1 hx))
      have t2 : allB (uni (fun s => closI n [s]) p) (closI n p) = true := allB_true (fun x hx => (closI_union hp x).2 (uni_mem.1 hx))
      have t3 : allB (closI n (stepTo n p k)) (uni (fun s => closI n (stepTo n [s] k)) p) = true := allB_true (fun x hx => uni_mem.2 ((stepI_union hg k x).1 hx))
      have t4 : allB (uni (fun s => closI n (stepTo n [s] k)) p) (closI n (stepTo n p k)) = true := allB_true (fun x hx => (stepI_union hg k x).2 (uni_mem.1 hx))
      have t5 : allB (labels n p) (uni (fun s => labels n [s]) p) = true := allB_true (fun x hx => uni_mem.2 ((labels_union hg x).1 hx))
      have t6 : allB (uni (fun s => labels n [s]) p) (labels n p) = true := allB_true (fun x hx => (labels_union hg x).2 (uni_mem.1 hx))
      have u1 := closI_up hp
      have u2 := closI_up (hsm p)
      have u3 := labels_up n p
      generalize closI n (stepTo n p k) = b at *
      generalize closI n p = a at *
      generalize labels n p = c' at *
      generalize uni (fun s => closI n [s]) p = x at *
      generalize uni (fun s => closI n (stepTo n [s] k)) p = y at *
      generalize uni (fun s => labels n [s]) p = z at *
      have o1 := within_v a x (by omega) (by omega)
      have o2 := within_v x a (by omega) (by omega)
      have o3 := within_v b y (by omega) (by omega)
      have o4 := within_v y b (by omega) (by omega)
      have o5 := within_v c' z (by omega) (by omega)
      have o6 := within_v z c' (by omega) (by omega)
      rw [t1] at o1
      rw [t2] at o2
      rw [t3] at o3
      rw [t4] at o4
      rw [t5] at o5
      rw [t6] at o6
      (repeat (first | ((with_reducible refine VOps.same ?_); (first | refine VOps.vp (by rfl) (by kernel_rfl) (by rfl) (VPure.move rfl rfl) ?_)) | refine VCode.seq ?_ | refine VCode.region rfl ?_ | refine VCode.exit ?_))
      refine VOps.pure rfl Try.func21 rfl (by kernel_rfl) rfl rfl rfl rfl rfl rfl rfl (o1) ?_
      (repeat (first | ((with_reducible refine VOps.same ?_); (first | refine VOps.vp (by rfl) (by kernel_rfl) (by rfl) (VPure.move rfl rfl) ?_))))
      refine VOps.pure rfl Try.func21 rfl (by kernel_rfl) rfl rfl rfl rfl rfl rfl rfl (o2) ?_
      (repeat (first | ((with_reducible refine VOps.same ?_); (first | refine VOps.vp (by rfl) (by kernel_rfl) (by rfl) (VPure.move rfl rfl) ?_ | refine VOps.vp (by rfl) (by kernel_rfl) (by rfl) (VPure.pick_t rfl rfl rfl) ?_))))
      refine VOps.pure rfl Try.func21 rfl (by kernel_rfl) rfl rfl rfl rfl rfl rfl rfl (o3) ?_
      (repeat (first | ((with_reducible refine VOps.same ?_); (first | refine VOps.vp (by rfl) (by kernel_rfl) (by rfl) (VPure.move rfl rfl) ?_ | refine VOps.vp (by rfl) (by kernel_rfl) (by rfl) (VPure.pick_t rfl rfl rfl) ?_))))
      refine VOps.pure rfl Try.func21 rfl (by kernel_rfl) rfl rfl rfl rfl rfl rfl rfl (o4) ?_
      (repeat (first | ((with_reducible refine VOps.same ?_); (first | refine VOps.vp (by rfl) (by kernel_rfl) (by rfl) (VPure.move rfl rfl) ?_ | refine VOps.vp (by rfl) (by kernel_rfl) (by rfl) (VPure.pick_t rfl rfl rfl) ?_))))
      refine VOps.pure rfl Try.func21 rfl (by kernel_rfl) rfl rfl rfl rfl rfl rfl rfl (o5) ?_
      (repeat (first | ((with_reducible refine VOps.same ?_); (first | refine VOps.vp (by rfl) (by kernel_rfl) (by rfl) (VPure.move rfl rfl) ?_ | refine VOps.vp (by rfl) (by kernel_rfl) (by rfl) (VPure.pick_t rfl rfl rfl) ?_))))
      refine VOps.pure rfl Try.func21 rfl (by kernel_rfl) rfl rfl rfl rfl rfl rfl rfl (o6) ?_
      (repeat (first | ((with_reducible refine VOps.same ?_); (first | refine VOps.vp (by rfl) (by kernel_rfl) (by rfl) (VPure.move rfl rfl) ?_ | refine VOps.vp (by rfl) (by kernel_rfl) (by rfl) (VPure.pick_t rfl rfl rfl) ?_))))
      refine VOps.pure rfl Try.func22 rfl (by kernel_rfl) rfl rfl rfl rfl rfl rfl rfl (rising_v a (by omega) u1) ?_
      (repeat (first | ((with_reducible refine VOps.same ?_); (first | refine VOps.vp (by rfl) (by kernel_rfl) (by rfl) (VPure.move rfl rfl) ?_ | refine VOps.vp (by rfl) (by kernel_rfl) (by rfl) (VPure.pick_t rfl rfl rfl) ?_))))
      refine VOps.pure rfl Try.func22 rfl (by kernel_rfl) rfl rfl rfl rfl rfl rfl rfl (rising_v b (by omega) u2) ?_
      (repeat (first | ((with_reducible refine VOps.same ?_); (first | refine VOps.vp (by rfl) (by kernel_rfl) (by rfl) (VPure.move rfl rfl) ?_ | refine VOps.vp (by rfl) (by kernel_rfl) (by rfl) (VPure.pick_t rfl rfl rfl) ?_))))
      refine VOps.pure rfl Try.func22 rfl (by kernel_rfl) rfl rfl rfl rfl rfl rfl rfl (rising_v c' (by omega) u3) ?_
      (repeat (first | ((with_reducible refine VOps.same ?_); (first | refine VOps.vp (by rfl) (by kernel_rfl) (by rfl) (VPure.move rfl rfl) ?_ | refine VOps.vp (by rfl) (by kernel_rfl) (by rfl) (VPure.pick_t rfl rfl rfl) ?_))))
      refine VOps.pure rfl Try.func8 rfl (by kernel_rfl) rfl rfl rfl rfl rfl rfl rfl (wakes_v) ?_
      (repeat (first | ((with_reducible refine VOps.same ?_); (first | (refine VOps.nil ?_; try dsimp only [VThen, VBlock]) | refine VOps.vp (by rfl) (by kernel_rfl) (by rfl) (VPure.assign rfl rfl) ?_ | refine VOps.vp (by rfl) (by kernel_rfl) (by rfl) (VPure.pick_t rfl rfl rfl) ?_))))
      refine VCode.retD rfl rfl (.tmp rfl .nil) ?_
      rfl
-- LAW CloseUnion union_law agg:open_net open_u16s open_u8
theorem union_law (n : Net) (g : goodN n) (l : List Int) (gl : (∀ a ∈ l, (Lit.int .u16 a).wf = true) ∧ l.length * 2 ≤ reachBytes) (c : Int) (gc : (Lit.int .u8 c).wf = true) : VCalls Try.prog 5 [.agg ((encNet n).map D.toV), .sl 1 (l.map fun k => [.val (.int .u16 k)]), .val (.int .u8 c)] [] 0 (Gives (.val (.bool true))) :=
  have h : reachBytes < 140737488355328 := reachBytes_lt
  union_v n l c (by have := g.1.2; omega) (by have := gl.2; omega) (fun k hk => by have := Go.bounds_u16 (gl.1 k hk); omega) (by have := Go.bounds_u8 gc; omega)
end Go.Proofs.Ytbpjlpokmnmmmaa.V

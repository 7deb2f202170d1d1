/- close: Step, Ends, Ints. -/
import Derived.Test.YtbpjlpokmnmmmaaVOf
set_option linter.unusedVariables false
set_option linter.unusedSimpArgs false
namespace Go.Proofs.Ytbpjlpokmnmmmaa.V
open Go Go.RowKit Go.Proofs.Ytbpjlpokmnmmmaa.CG
def hits (c : Int) (l : List NEdge) : List Int := (l.filter fun e => decide (e.1 = c)).map fun e => e.2
def stepTo (n : Net) (l : List Int) (c : Int) : List Int := l.flatMap fun s => hits c (n.getD s.toNat [])
theorem hits_succ {c : Int} {l : List NEdge} {k : Nat} {e : NEdge} (h : l[k]? = some e) : hits c (l.take (k + 1)) = hits c (l.take k) ++ (if e.1 = c then [e.2] else []) := by
  unfold hits
  rw [List.take_add_one, h]
  by_cases hc : e.1 = c
  · simp [hc]
  · simp [hc]
theorem stepTo_succ {n : Net} {l : List Int} {c : Int} {k : Nat} {s : Int} (h : l[k]? = some s) : stepTo n (l.take (k + 1)) c = stepTo n (l.take k) c ++ hits c (n.getD s.toNat []) := by
  unfold stepTo
  rw [List.take_add_one, h]; simp
theorem hits_len (c : Int) (l : List NEdge) : (hits c l).length ≤ l.length := by
  unfold hits; rw [List.length_map]; exact List.length_filter_le _ _
theorem stepTo_len {n : Net} (hg : goodNet n = true) (c : Int) (l : List Int) : (stepTo n l c).length ≤ 8000 * l.length := by
  unfold stepTo
  induction l with
  | nil => simp
  | cons s l ih =>
    rw [List.flatMap_cons, List.length_append, List.length_cons]
    have h1 := hits_len c (n.getD s.toNat [])
    have h2 : (n.getD s.toNat []).length ≤ 8000 := by
      rw [List.getD_eq_getElem?_getD]
      cases h : n[s.toNat]? with
      | none => simp
      | some es => exact (good_edges hg).2.2.2.2 es (List.mem_of_getElem? h)
    omega
theorem stepTo_may {n : Net} {l : List Int} {c : Int} (hg : goodNet n = true) : mayB n (stepTo n l c) = true := by
  unfold mayB
  rw [hg, Bool.true_and, Bool.not_eq_true', List.any_eq_false]
  intro t ht
  unfold stepTo at ht
  obtain ⟨s, _, ht⟩ := List.mem_flatMap.1 ht
  unfold hits at ht
  obtain ⟨e, he, rfl⟩ := List.mem_map.1 ht
  have he := (List.mem_filter.1 he).1
  rw [List.getD_eq_getElem?_getD] at he
  cases h : n[s.toNat]? with
  | none => rw [h] at he; cases he
  | some es =>
    rw [h] at he
    have := (good_edges hg).2.2.2.1 es (List.mem_of_getElem? h) e he
    unfold outOf
    simp; omega
def stepOk (n : Net) (l : List Int) (c : Int) : Bool := !decide (c < 0) && mayB n l
def stepR (n : Net) (l : List Int) (c : Int) : V := .tup [.sl 1 ((if stepOk n l c = true then clos n (nats (stepTo n l c)) else []).map encN), .val (.int .i64 (if stepOk n l c = true then 0 else 1))]
set_option maxHeartbeats 4000000 in
theorem step_v (n : Net) (l : List Int) (c : Int) (hn : n.length ≤ 1000000) (hm : many n ≤ 1000000) (hl : l.length ≤ 10000) : VCalls Try.prog 11 [netV n, .sl 1 (l.map encZ), .val (.int .i64 c)] [] 0 (Gives (stepR n l c)) := by
  refine VCalls.enterD (n := 51) Try.func11 rfl rfl (by simp) rfl (fun cx hcx => ?_)
  (repeat (first | ((with_reducible refine VOps.same ?_); (first | (refine VOps.nil ?_; try dsimp only [VThen, VBlock]) | refine VOps.vp (by rfl) (by kernel_rfl) (by rfl) (VPure.move rfl rfl) ?_ | refine VOps.vp (by rfl) (by kernel_rfl) (by rfl) (VPure.assign rfl rfl) ?_ | refine VOps.vp (by rfl) (by kernel_rfl) (by rfl) (VPure.lss rfl rfl rfl) ?_ | refine VOps.box rfl rfl (by kernel_rfl) rfl rfl rfl rfl ?_)) | refine VCode.seq ?_ | refine VCode.region rfl ?_))
  refine VOps.bool (d := 15) rfl (fun h1 => ?_) (fun h1 => ?_)
  · have hk : stepOk n l c = false := by unfold stepOk; rw [h1]; rfl
    (repeat (first | ((with_reducible refine VOps.same ?_); (first | (refine VOps.nil ?_; try dsimp only [VThen, VBlock]) | refine VOps.vp (by rfl) (by kernel_rfl) (by rfl) (VPure.pick_t rfl rfl rfl) ?_ | refine VOps.passv rfl (by kernel_rfl) rfl ?_))))
    refine VCode.cond_t rfl rfl ?_
    (repeat (first | ((with_reducible refine VOps.same ?_); (first | (refine VOps.nil ?_; try dsimp only [VThen, VBlock]) | refine VOps.vp (by rfl) (by kernel_rfl) (by rfl) (VPure.assign rfl rfl) ?_)) | refine VCode.seq ?_ | refine VCode.region rfl ?_))
    refine VCode.nilS 6 1 rfl ?_
    refine VCode.retD rfl rfl (.tmp rfl (.tmp rfl .nil)) ?_
    unfold stepR; rw [hk]; rfl
  (repeat (first | ((with_reducible refine VOps.same ?_); (first | refine VOps.vp (by rfl) (by kernel_rfl) (by rfl) (VPure.move rfl rfl) ?_ | refine VOps.vv (by rfl) (by kernel_rfl) (by rfl) (VLoad.boxA rfl rfl rfl (by rfl) (Nat.le_of_ble_eq_true (by rfl)) (by decide)) ?_))))
  refine VOps.pure rfl Try.func23 rfl (by kernel_rfl) rfl rfl rfl rfl rfl rfl rfl (may_v n l hn hm (by omega)) ?_
  (repeat (first | ((with_reducible refine VOps.same ?_); (first | (refine VOps.nil ?_; try dsimp only [VThen, VBlock]) | refine VOps.vp (by rfl) (by kernel_rfl) (by rfl) (VPure.not rfl rfl) ?_ | refine VOps.vp (by rfl) (by kernel_rfl) (by rfl) (VPure.pick_f rfl rfl rfl) ?_))))
  refine VCode.cond rfl (fun h2 => ?_) (fun h2 => ?_)
  · have h2 : mayB n l = false := by simpa using h2
    have hk : stepOk n l c = false := by unfold stepOk; rw [h1, h2]; rfl
    (repeat (first | ((with_reducible refine VOps.same ?_); (first | (refine VOps.nil ?_; try dsimp only [VThen, VBlock]) | refine VOps.vp (by rfl) (by kernel_rfl) (by rfl) (VPure.assign rfl rfl) ?_)) | refine VCode.seq ?_ | refine VCode.region rfl ?_))
    refine VCode.nilS 6 1 rfl ?_
    refine VCode.retD rfl rfl (.tmp rfl (.tmp rfl .nil)) ?_
    unfold stepR; rw [hk]; rfl
  have h2 : mayB n l = true := by simpa using h2
  have hk : stepOk n l c = true := by unfold stepOk; rw [h1, h2]; rfl
  have hg : goodNet n = true := by unfold mayB at h2; simp only [Bool.and_eq_true] at h2; exact h2.1
  obtain ⟨g1, g2, g3, g4, g5⟩ := good_edges hg
  have hin : ∀ s ∈ l, 0 ≤ s ∧ s < n.length := fun s hs => by
    unfold mayB at h2
    simp only [Bool.and_eq_true, Bool.not_eq_true', List.any_eq_false] at h2
    have := h2.2 s hs
    unfold outOf at this
    simp at this; omega
  (repeat (first | ((with_reducible refine VOps.same ?_); (first | (refine VOps.nil ?_; try dsimp only [VThen, VBlock]) | refine VOps.vp (by rfl) (by kernel_rfl) (by rfl) (VPure.move rfl rfl) ?_ | refine VOps.vp (by rfl) (by kernel_rfl) (by rfl) (VPure.assign rfl rfl) ?_ | refine VOps.vp (by rfl) (by kernel_rfl) (by rfl) (VPure.len_map TI.und' rfl rfl) ?_)) | refine VCode.seq ?_ | refine VCode.region rfl ?_ | refine VCode.block ?_ | refine VCode.skip ?_))
  refine VCode.nilObj 8 3 1 rfl ?_
  refine VCode.loop (fun m st => ∃ k : Nat, k ≤ l.length ∧ m = l.length - k ∧ st = ⟨[(23, .val (.int .i64 (k : Int))), (21, .sl 1 (l.map encZ)), (22, .val (.int .i64 (l.length : Int))), (2, .val (.int .i64 c)), (3, .ptr 0 0), (8, .ref 1)], [(0, .cells 24 [.sl 1 (n.map encL)]), (1, .arr 3 1 ((stepTo n (l.take k) c).map encZ))], 2⟩) l.length ?_ ?_
  · (refine Less.mk (l := [0, 1]) hcx ?ss ?hh rfl (by decide) rfl ⟨0, by omega, by omega, rfl⟩; (case ss => repeat (first | exact SubS.nil | refine SubS.cons rfl rfl ?_ | refine SubS.cons (congrArg (fun z => some (V.val (Value.int IntKind.i64 z))) (by omega)) rfl ?_ | refine SubS.cons (congrArg (fun z => some (V.val (Value.bool z))) (by assumption)) rfl ?_)); (case hh => repeat (first | exact SubH.nil | refine SubH.cons rfl rfl rfl ?_)))
  rintro m st ⟨k, hkl, rfl, rfl⟩
  have hsl := stepTo_len hg c (l.take k)
  have htl : (l.take k).length ≤ l.length := by rw [List.length_take]; omega
  cases ht : l[k]? with
  | some s =>
    have hlt : k < l.length := (List.getElem?_eq_some_iff.1 ht).1
    have hs := hin s (List.mem_of_getElem? ht)
    obtain ⟨q, rfl⟩ : ∃ q : Nat, s = (q : Int) := ⟨s.toNat, by omega⟩
    obtain ⟨es, hes⟩ : ∃ es, n[q]? = some es := ⟨_, List.getElem?_eq_getElem (by omega)⟩
    have hes8 := g5 es (List.mem_of_getElem? hes)
    have hsucc := stepTo_succ (n := n) (c := c) ht
    rw [show n.getD (q : Int).toNat [] = es by rw [Int.toNat_natCast, List.getD_eq_getElem?_getD, hes]; rfl] at hsucc
    (repeat (first | ((with_reducible refine VOps.same ?_); (first | (refine VOps.nil ?_; try dsimp only [VThen, VBlock]) | refine VOps.vp (by rfl) (by kernel_rfl) (by rfl) (VPure.lss rfl rfl rfl) ?_)) | refine VCode.seq ?_ | refine VCode.region rfl ?_))
    refine VCode.cond_t rfl (decide_eq_true (by omega)) ?_
    (repeat (first | ((with_reducible refine VOps.same ?_); (first | (refine VOps.nil ?_; try dsimp only [VThen, VBlock]) | refine VOps.vp (by rfl) (by kernel_rfl) (by rfl) (VPure.move rfl rfl) ?_ | refine VOps.vp (by rfl) (by kernel_rfl) (by rfl) (VPure.assign rfl rfl) ?_ | refine VOps.vp (by rfl) (by kernel_rfl) (by rfl) (VPure.len_map TI.und' rfl rfl) ?_ | refine VOps.vp (by rfl) (by kernel_rfl) (by rfl) (VPure.idx_map rfl rfl rfl (by assumption)) ?_ | refine VOps.vp (by rfl) (by kernel_rfl) (by rfl) (VPure.field_ptr rfl rfl rfl) ?_ | refine VOps.vv (by rfl) (by kernel_rfl) (by rfl) (VLoad.el1 rfl rfl rfl (by rfl)) ?_ | refine VOps.vv (by rfl) (by kernel_rfl) (by rfl) (VLoad.box1 rfl rfl rfl rfl (by rfl) (by decide)) ?_)) | refine VCode.seq ?_ | refine VCode.region rfl ?_ | refine VCode.block ?_ | refine VCode.skip ?_))
    refine VCode.loop (fun m st => ∃ j : Nat, j ≤ es.length ∧ m = es.length - j ∧ st = ⟨[(33, .val (.int .i64 (j : Int))), (31, .sl 2 (es.map encE)), (32, .val (.int .i64 (es.length : Int))), (23, .val (.int .i64 (k : Int))), (21, .sl 1 (l.map encZ)), (22, .val (.int .i64 (l.length : Int))), (2, .val (.int .i64 c)), (3, .ptr 0 0), (8, .ref 1)], [(0, .cells 24 [.sl 1 (n.map encL)]), (1, .arr 3 1 ((stepTo n (l.take k) c ++ hits c (es.take j)).map encZ))], 2⟩) es.length ?_ ?_
    · refine Less.mk (l := [0, 1]) (st' := ⟨[(33, .val (.int .i64 ((0 : Nat) : Int))), (31, .sl 2 (es.map encE)), (32, .val (.int .i64 (es.length : Int))), (23, .val (.int .i64 (k : Int))), (21, .sl 1 (l.map encZ)), (22, .val (.int .i64 (l.length : Int))), (2, .val (.int .i64 c)), (3, .ptr 0 0), (8, .ref 1)], [(0, .cells 24 [.sl 1 (n.map encL)]), (1, .arr 3 1 ((stepTo n (l.take k) c ++ hits c (es.take 0)).map encZ))], 2⟩) hcx ?ss ?hh rfl (by decide) rfl ⟨0, by omega, by omega, rfl⟩
      case ss => repeat (first | exact SubS.nil | refine SubS.cons rfl rfl ?_)
      case hh =>
        refine SubH.cons rfl rfl rfl (SubH.cons ?_ rfl rfl SubH.nil)
        show some (O.arr 3 1 _) = some (O.arr 3 1 _)
        rw [show hits c (es.take 0) = [] from rfl, List.append_nil]
    rintro m st ⟨j, hj, rfl, rfl⟩
    have hhl := hits_len c (es.take j)
    have hhl2 : (es.take j).length ≤ es.length := by rw [List.length_take]; omega
    cases hu : es[j]? with
    | some e =>
      have hlt2 : j < es.length := (List.getElem?_eq_some_iff.1 hu).1
      have hh := hits_succ (c := c) hu
      (repeat (first | ((with_reducible refine VOps.same ?_); (first | (refine VOps.nil ?_; try dsimp only [VThen, VBlock]) | refine VOps.vp (by rfl) (by kernel_rfl) (by rfl) (VPure.lss rfl rfl rfl) ?_)) | refine VCode.seq ?_ | refine VCode.region rfl ?_))
      refine VCode.cond_t rfl (decide_eq_true (by omega)) ?_
      (repeat (first | ((with_reducible refine VOps.same ?_); (first | (refine VOps.nil ?_; try dsimp only [VThen, VBlock]) | refine VOps.vp (by rfl) (by kernel_rfl) (by rfl) (VPure.move rfl rfl) ?_ | refine VOps.vp (by rfl) (by kernel_rfl) (by rfl) (VPure.idx_map rfl rfl rfl (by assumption)) ?_ | refine VOps.vp (by rfl) (by kernel_rfl) (by rfl) (VPure.field_ptr rfl rfl rfl) ?_ | refine VOps.vv (by rfl) (by kernel_rfl) (by rfl) (VLoad.box1 rfl rfl rfl rfl (by rfl) (by decide)) ?_ | refine VOps.vv (by rfl) (by kernel_rfl) (by rfl) (VLoad.elA rfl rfl (by rfl) (Nat.le_of_ble_eq_true (by rfl))) ?_ | refine VOps.vp (by rfl) (by kernel_rfl) (by rfl) (VPure.eqi rfl rfl rfl) ?_ | refine VOps.alloc rfl rfl (by kernel_rfl) rfl (by kernel_rfl) rfl ?_ | refine VOps.store rfl rfl (by kernel_rfl) rfl rfl rfl rfl rfl rfl (Nat.le_of_ble_eq_true (by rfl)) rfl ?_)) | refine VCode.seq ?_ | refine VCode.region rfl ?_ | refine VCode.block ?_ | refine VCode.skip ?_))
      refine VCode.cond rfl (fun hb => ?_) (fun hb => ?_)
      · rw [if_pos (of_decide_eq_true hb)] at hh
        (repeat (first | ((with_reducible refine VOps.same ?_); (first | refine VOps.vp (by rfl) (by kernel_rfl) (by rfl) (VPure.move rfl rfl) ?_ | refine VOps.vp (by rfl) (by kernel_rfl) (by rfl) (VPure.field_ptr rfl rfl rfl) ?_ | refine VOps.vv (by rfl) (by kernel_rfl) (by rfl) (VLoad.box1 rfl rfl rfl rfl (by rfl) (by decide)) ?_ | refine VOps.one rfl rfl (by kernel_rfl) rfl (by rfl) (by decide) (by decide) rfl (by rfl) (by rfl) ?_)) | refine VCode.region rfl ?_))
        refine VOps.append (zs := (stepTo n (l.take k) c ++ hits c (es.take (j + 1))).map encZ) rfl rfl (by kernel_rfl) rfl (by rfl) (by decide) rfl (.arr rfl) rfl (.arr rfl) (by simp only [List.length_append, List.length_cons, List.length_nil, List.length_map]; unfold most; omega) (by simp only [List.length_append, List.length_cons, List.length_nil, List.length_map]; unfold most; omega) rfl ( by rw [hh, ← List.append_assoc, List.map_append (l₂ := [e.2])]; rfl) ?_
        (repeat (first | ((with_reducible refine VOps.same ?_); (first | (refine VOps.nil ?_; try dsimp only [VThen, VBlock]) | refine VOps.vp (by rfl) (by kernel_rfl) (by rfl) (VPure.move rfl rfl) ?_ | refine VOps.vp (by rfl) (by kernel_rfl) (by rfl) (VPure.assign rfl rfl) ?_ | refine VOps.vp (by rfl) (by kernel_rfl) (by rfl) (VPure.addK rfl rfl rfl (by omega)) ?_)) | refine VCode.region rfl ?_))
        (refine Less.mk (l := [0, 4]) hcx ?ss ?hh rfl (by decide) rfl ⟨_, ?_, j + 1, by omega, rfl, rfl⟩; (case ss => repeat (first | exact SubS.nil | refine SubS.cons rfl rfl ?_ | refine SubS.cons (congrArg (fun z => some (V.val (Value.int IntKind.i64 z))) (by omega)) rfl ?_ | refine SubS.cons (congrArg (fun z => some (V.val (Value.bool z))) (by assumption)) rfl ?_)); (case hh => repeat (first | exact SubH.nil | refine SubH.cons rfl rfl rfl ?_)))
        omega
      · rw [if_neg (of_decide_eq_false hb), List.append_nil] at hh
        rw [← hh]
        (repeat (first | ((with_reducible refine VOps.same ?_); (first | (refine VOps.nil ?_; try dsimp only [VThen, VBlock]) | refine VOps.vp (by rfl) (by kernel_rfl) (by rfl) (VPure.move rfl rfl) ?_ | refine VOps.vp (by rfl) (by kernel_rfl) (by rfl) (VPure.addK rfl rfl rfl (by omega)) ?_)) | refine VCode.region rfl ?_ | refine VCode.skip ?_))
        (refine Less.mk (l := [0, 1]) hcx ?ss ?hh rfl (by decide) rfl ⟨_, ?_, j + 1, by omega, rfl, rfl⟩; (case ss => repeat (first | exact SubS.nil | refine SubS.cons rfl rfl ?_ | refine SubS.cons (congrArg (fun z => some (V.val (Value.int IntKind.i64 z))) (by omega)) rfl ?_ | refine SubS.cons (congrArg (fun z => some (V.val (Value.bool z))) (by assumption)) rfl ?_)); (case hh => repeat (first | exact SubH.nil | refine SubH.cons rfl rfl rfl ?_)))
        omega
    | none =>
      have hge : es.length ≤ j := List.getElem?_eq_none_iff.1 hu
      obtain rfl : j = es.length := by omega
      rw [List.take_length, ← hsucc]
      (repeat (first | ((with_reducible refine VOps.same ?_); (first | (refine VOps.nil ?_; try dsimp only [VThen, VBlock]) | refine VOps.vp (by rfl) (by kernel_rfl) (by rfl) (VPure.lss rfl rfl rfl) ?_)) | refine VCode.seq ?_ | refine VCode.region rfl ?_))
      refine VCode.cond_f rfl (decide_eq_false (by omega)) ?_
      (repeat (first | ((with_reducible refine VOps.same ?_); (first | (refine VOps.nil ?_; try dsimp only [VThen, VBlock]) | refine VOps.vp (by rfl) (by kernel_rfl) (by rfl) (VPure.move rfl rfl) ?_ | refine VOps.vp (by rfl) (by kernel_rfl) (by rfl) (VPure.addK rfl rfl rfl (by omega)) ?_)) | refine VCode.region rfl ?_ | refine VCode.exit ?_))
      (refine Less.mk (l := [0, 1]) hcx ?ss ?hh rfl (by decide) rfl ⟨_, ?_, k + 1, by omega, rfl, rfl⟩; (case ss => repeat (first | exact SubS.nil | refine SubS.cons rfl rfl ?_ | refine SubS.cons (congrArg (fun z => some (V.val (Value.int IntKind.i64 z))) (by omega)) rfl ?_ | refine SubS.cons (congrArg (fun z => some (V.val (Value.bool z))) (by assumption)) rfl ?_)); (case hh => repeat (first | exact SubH.nil | refine SubH.cons rfl rfl rfl ?_)))
      omega
  | none =>
    have hge : l.length ≤ k := List.getElem?_eq_none_iff.1 ht
    obtain rfl : k = l.length := by omega
    rw [List.take_length] at *
    (repeat (first | ((with_reducible refine VOps.same ?_); (first | (refine VOps.nil ?_; try dsimp only [VThen, VBlock]) | refine VOps.vp (by rfl) (by kernel_rfl) (by rfl) (VPure.lss rfl rfl rfl) ?_)) | refine VCode.seq ?_ | refine VCode.region rfl ?_))
    refine VCode.cond_f rfl (decide_eq_false (by omega)) ?_
    refine VCode.freeze (id := 1) rfl ?_
    refine VCode.lessTo ⟨[(3, .ptr 0 0), (8, .sl 1 ((stepTo n l c).map encZ))], [(0, .cells 24 [.sl 1 (n.map encL)])], 1⟩ ?_ ?_
    · (refine Less.mk (l := [0]) hcx ?ss ?hh rfl (by decide) rfl rfl; (case ss => repeat (first | exact SubS.nil | refine SubS.cons rfl rfl ?_ | refine SubS.cons (congrArg (fun z => some (V.val (Value.int IntKind.i64 z))) (by omega)) rfl ?_ | refine SubS.cons (congrArg (fun z => some (V.val (Value.bool z))) (by assumption)) rfl ?_)); (case hh => repeat (first | exact SubH.nil | refine SubH.cons rfl rfl rfl ?_)))
    (repeat (first | ((with_reducible refine VOps.same ?_); (first | refine VOps.vp (by rfl) (by kernel_rfl) (by rfl) (VPure.move rfl rfl) ?_ | refine VOps.vv (by rfl) (by kernel_rfl) (by rfl) (VLoad.boxA rfl rfl rfl (by rfl) (Nat.le_of_ble_eq_true (by rfl)) (by decide)) ?_)) | refine VCode.seq ?_ | refine VCode.region rfl ?_ | refine VCode.exit ?_))
    refine VOps.gives rfl Try.func24 rfl (by kernel_rfl) rfl rfl rfl rfl rfl rfl rfl rfl (clos_v (stepTo_may hg) (by omega)) ?_
    (repeat (first | ((with_reducible refine VOps.same ?_); (first | (refine VOps.nil ?_; try dsimp only [VThen, VBlock]) | refine VOps.vp (by rfl) (by kernel_rfl) (by rfl) (VPure.assign rfl rfl) ?_))))
    refine VCode.retD rfl rfl (.tmp rfl (.tmp rfl .nil)) ?_
    unfold stepR; rw [hk]; rfl
end Go.Proofs.Ytbpjlpokmnmmmaa.V

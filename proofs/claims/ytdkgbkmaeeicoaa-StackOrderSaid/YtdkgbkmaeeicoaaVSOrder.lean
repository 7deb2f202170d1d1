/- stack: StackOrder. -/
import Derived.Test.YtdkgbkmaeeicoaaVSOnce
import Derived.Test.YtdkgbkmaeeicoaaVSArr
set_option linter.unusedVariables false
set_option linter.unusedSimpArgs false
-- YtdkgbkmaeeicoaaVC
namespace Go.Proofs.Ytdkgbkmaeeicoaa.V
open Go Go.RowKit
theorem nodeAt_key {S : List Nd} {p : Nat} {a b : Int} (hn : (keys S).Nodup) (h : (keys S)[p]? = some (a, b)) : nodeAt S a b = p ∧ thereB S a b = true := by
  have ht : thereB S a b = true := there_iff.2 (List.mem_of_getElem? h)
  refine ⟨?_, ht⟩
  unfold nodeAt
  cases hf : S.findIdx? (isNd a b) with
  | none => unfold thereB at ht; rw [hf] at ht; cases ht
  | some i =>
    obtain ⟨h1, h2, _⟩ := List.findIdx?_eq_some_iff_getElem.1 hf
    have hi : i < (keys S).length := by simpa [keys] using h1
    obtain ⟨hp, hp2⟩ := List.getElem?_eq_some_iff.1 h
    have e : (keys S)[i] = (keys S)[p] := by
      rw [hp2]
      have := (isNd_is a b S[i]).1 h2
      simpa [keys] using this
    have hpw := List.pairwise_iff_getElem.1 hn
    rcases Nat.lt_trichotomy i p with hlt | he | hlt
    · exact absurd e (hpw i p hi hp hlt)
    · exact he
    · exact absurd e.symm (hpw p i hp hi hlt)
theorem nodeAt_none {S : List Nd} {a b : Int} (h : (a, b) ∉ keys S) : nodeAt S a b = S.length ∧ thereB S a b = false ∧ keys (addNode S a b) = keys S ++ [(a, b)] := by
  have ht : thereB S a b = false := by
    rw [Bool.eq_false_iff]
    exact fun e => h (there_iff.1 e)
  refine ⟨?_, ht, ?_⟩
  · unfold nodeAt
    unfold thereB at ht
    cases hf : S.findIdx? (isNd a b) with
    | none => rfl
    | some i => rw [hf] at ht; cases ht
  · unfold addNode
    rw [if_neg (by rw [ht]; exact Bool.false_ne_true)]
    simp [keys]
theorem addNode_same {S : List Nd} {a b : Int} (h : thereB S a b = true) : addNode S a b = S := by unfold addNode; rw [if_pos h]
theorem order_step {T : List Nd} {c k : Nat} (h : Few T c) (hc : c + 2 ≤ 100000) (hk : k < T.length) (q : Int) : ∃ (U W : List Nd) (e p : Bool) (was now : List (Int × Int)) (pops more : List Int),
    VCalls Try.prog 20 [.ptr 0 0, .val (.int .i64 (k : Int))] (stH T) 3 (Leaves (.sl 2 (was.map encP)) (stH' T) 4) ∧ VCalls Try.prog 21 [.ptr 0 0, .val (.int .i64 (k : Int))] (stH T) 3 (Leaves (.sl 1 (pops.map encZ)) (stH' T) 4) ∧
    VCalls Try.prog 11 [.ptr 0 0, .val (.int .i64 (k : Int)), .val (.int .i64 q), .val (.int .i64 (k : Int))] (stH T) 3 (Leaves (.val (.bool e)) (stH' U) 4) ∧ VCalls Try.prog 13 [.ptr 0 0, .val (.int .i64 (k : Int)), .val (.int .i64 q)] (stH U) 3 (Leaves (.val (.bool p)) (stH' W) 4) ∧
    VCalls Try.prog 20 [.ptr 0 0, .val (.int .i64 (k : Int))] (stH W) 3 (Leaves (.sl 2 (now.map encP)) (stH' W) 4) ∧ VCalls Try.prog 21 [.ptr 0 0, .val (.int .i64 (k : Int))] (stH W) 3 (Leaves (.sl 1 (more.map encZ)) (stH' W) 4) ∧
    now = (if e then was ++ [(q, (k : Int))] else was) ∧ more = (if p then pops ++ [q] else pops) ∧ keys W = keys T ∧ Few W (c + 2) ∧ was.length ≤ 100000 ∧ pops.length ≤ 100000 := by
  obtain ⟨u, hu⟩ : ∃ u, T[k]? = some u := ⟨_, List.getElem?_eq_getElem hk⟩
  have hh : hasB T (k : Int) = true := by unfold hasB; simp; omega
  have eU : addEdge T k q k = T.set k (withE (q, k) u) := by unfold addEdge; rw [hh, Bool.and_self, if_pos rfl, atNd_some hu]
  have hU : (T.set k (withE (q, k) u))[k]? = some (withE (q, k) u) := by rw [List.getElem?_set, if_pos rfl, if_pos hk]
  have hh2 : hasB (T.set k (withE (q, k) u)) (k : Int) = true := by rw [← hh]; exact hasB_len (List.length_set ..) _
  have eW : addPop (T.set k (withE (q, k) u)) k q = (T.set k (withE (q, k) u)).set k (withP q (withE (q, k) u)) := by unfold addPop; rw [hh2, if_pos rfl, atNd_some hU]
  have hW : ((T.set k (withE (q, k) u)).set k (withP q (withE (q, k) u)))[k]? = some (withP q (withE (q, k) u)) := by rw [List.getElem?_set, if_pos rfl, if_pos (by rw [List.length_set]; exact hk)]
  have hFU : Few (T.set k (withE (q, k) u)) (c + 1) := by rw [← eU]; exact few_edge h _ _ _
  have hFW : Few ((T.set k (withE (q, k) u)).set k (withP q (withE (q, k) u))) (c + 1 + 1) := by rw [← eW]; exact few_pop hFU _ _
  have c3 := edge_f (few_mono h (by omega)) (k : Int) q (k : Int)
  have c4 := pop_f (few_mono hFU (by omega)) (k : Int) q
  have c1 := edges_o T (k : Int) (fun v hv => by have := few_all h v hv; omega)
  have c2 := pops_o T (k : Int) (fun v hv => by have := few_all h v hv; omega)
  have c5 := edges_o _ (k : Int) (fun v hv => by have := few_all hFW v hv; omega)
  have c6 := pops_o _ (k : Int) (fun v hv => by have := few_all hFW v hv; omega)
  rw [eU] at c3
  rw [eW] at c4
  rw [(of_some hu).1] at c1
  rw [(of_some hu).2] at c2
  rw [(of_some hW).1] at c5
  rw [(of_some hW).2] at c6
  have q1 := few_all h u (List.mem_of_getElem? hu)
  refine ⟨_, _, _, _, u.e, _, u.p, _, c1, c2, c3, c4, c5, c6, ?_, ?_, ?_, hFW, by omega, by omega⟩
  · unfold edgeB
    rw [hh, (of_some hu).1]
    show addP u.e (q, (k : Int)) = _
    unfold addP
    by_cases hb : u.e.any (eqP (q, (k : Int))) = true <;> simp [hb]
  · unfold popB
    rw [hh2, (of_some hU).2]
    show addZ u.p q = _
    unfold addZ
    simp only [withE]
    by_cases hb : (u.p.any fun y => decide (q = y)) = true <;> simp [hb]
  · rw [keys_set (u' := withP q (withE (q, (k : Int)) u)) hU rfl rfl, keys_set (u' := withE (q, (k : Int)) u) hu rfl rfl]
theorem edgesn_f {S : List Nd} (h : Few S 100000) {n : Int} (hn : hasB S n = false) : VCalls Try.prog 20 [.ptr 0 0, .val (.int .i64 n)] (stH S) 3 (Leaves (.sl 2 []) (stH' S) 4) := by
  have := edges_o S n (fun v hv => by have := few_all h v hv; omega)
  rw [(hasB_none hn).1] at this
  exact this
theorem popsn_f {S : List Nd} (h : Few S 100000) {n : Int} (hn : hasB S n = false) : VCalls Try.prog 21 [.ptr 0 0, .val (.int .i64 n)] (stH S) 3 (Leaves (.sl 1 []) (stH' S) 4) := by
  have := pops_o S n (fun v hv => by have := few_all h v hv; omega)
  rw [(hasB_none hn).2] at this
  exact this
theorem edgen_f {S : List Nd} (h : Few S 100000) {n : Int} (hn : hasB S n = false) (a b : Int) : VCalls Try.prog 11 [.ptr 0 0, .val (.int .i64 n), .val (.int .i64 a), .val (.int .i64 b)] (stH S) 3 (Leaves (.val (.bool false)) (stH' S) 4) := by
  have := edge_f h n a b
  rw [show edgeB S n a b = false by unfold edgeB; rw [hn]; rfl, show addEdge S n a b = S by unfold addEdge; rw [hn]; rfl] at this
  exact this
theorem popn_f {S : List Nd} (h : Few S 100000) {n : Int} (hn : hasB S n = false) (a : Int) : VCalls Try.prog 13 [.ptr 0 0, .val (.int .i64 n), .val (.int .i64 a)] (stH S) 3 (Leaves (.val (.bool false)) (stH' S) 4) := by
  have := pop_f h n a
  rw [show popB S n a = false by unfold popB; rw [hn]; rfl, show addPop S n a = S by unfold addPop; rw [hn]; rfl] at this
  exact this
section
variable {P : Program} {n : Nat} {cx : Cx} {Q : VExit → St → Prop} {st : St}
theorem VCode.thenI {x y : Code} (I : St → Prop) (h : VCode P n cx x (VThen (Less cx I) Q) st) (h2 : ∀ st, I st → VCode P n cx y Q st) : VCode P n cx x (VThen (VCode P n cx y Q) Q) st :=
  h.mono fun e s hq => by
    cases e with
    | normal => exact VCode.less (let ⟨l, s', a, b, c, d⟩ := hq; ⟨l, s', a, b, c, h2 s' d⟩)
    | exit id => exact hq
    | ret => exact hq
    | panic c => exact hq
end
set_option maxHeartbeats 16000000 in
theorem order_v (l : List Stp) (hl : l.length ≤ 140737488355328) : VCalls Try.prog 6 [.sl 4 (l.map encS)] [] 0 (Gives (.val (.bool true))) := by
  refine VCalls.enterD (n := 221) Try.func6 rfl rfl (by simp) rfl (fun cx hcx => ?_)
  (repeat (first | ((with_reducible refine VOps.same ?_); (first | (refine VOps.nil ?_; try dsimp only [VThen, VBlock]) | refine VOps.vp (by rfl) (by kernel_rfl) (by rfl) (VPure.assign rfl rfl) ?_)) | refine VCode.seq ?_ | refine VCode.region rfl ?_))
  (refine VOps.callL (ch := []) [] rfl Try.func7 rfl (by kernel_rfl) rfl rfl rfl rfl ?hh (by decide) rfl rfl rfl (new_v) rfl (by rfl) rfl ?_; (case hh => repeat (first | exact SubH.nil | refine SubH.cons rfl rfl rfl ?_)))
  (repeat (first | ((with_reducible refine VOps.same ?_); (first | (refine VOps.nil ?_; try dsimp only [VThen, VBlock]) | refine VOps.vp (by rfl) (by kernel_rfl) (by rfl) (VPure.move rfl rfl) ?_ | refine VOps.vp (by rfl) (by kernel_rfl) (by rfl) (VPure.assign rfl rfl) ?_ | refine VOps.vp (by rfl) (by kernel_rfl) (by rfl) (VPure.len_map TI.und' rfl rfl) ?_ | refine VOps.vp (by rfl) (by kernel_rfl) (by rfl) (VPure.gtr rfl rfl rfl) ?_ | refine VOps.vp (by rfl) (by kernel_rfl) (by rfl) (VPure.pick_f rfl rfl rfl) ?_ | refine VOps.vp (by rfl) (by kernel_rfl) (by rfl) (VPure.nil_ptr rfl TI.und' rfl rfl rfl) ?_)) | refine VCode.seq ?_ | refine VCode.region rfl ?_))
  refine VCode.cond rfl (fun hlen => ?_) (fun hlen => ?_)
  · (repeat (first | ((with_reducible refine VOps.same ?_); (first | refine VOps.vp (by rfl) (by kernel_rfl) (by rfl) (VPure.move rfl rfl) ?_ | refine VOps.vp (by rfl) (by kernel_rfl) (by rfl) (VPure.nnil_ptr rfl TI.und' rfl rfl rfl) ?_)) | refine VCode.seq ?_ | refine VCode.region rfl ?_))
    refine VOps.pure rfl Try.func8 rfl (by kernel_rfl) rfl rfl rfl rfl rfl rfl rfl (wakes_v) ?_
    (repeat (first | ((with_reducible refine VOps.same ?_); (first | (refine VOps.nil ?_; try dsimp only [VThen, VBlock]) | refine VOps.vp (by rfl) (by kernel_rfl) (by rfl) (VPure.assign rfl rfl) ?_ | refine VOps.vp (by rfl) (by kernel_rfl) (by rfl) (VPure.pick_t rfl rfl rfl) ?_))))
    refine VCode.retD rfl rfl (.tmp rfl .nil) ?_
    rfl
  have hlen : l.length ≤ 100 := by have := of_decide_eq_false hlen; omega
  (repeat (first | ((with_reducible refine VOps.same ?_); (first | (refine VOps.nil ?_; try dsimp only [VThen, VBlock]) | refine VOps.vp (by rfl) (by kernel_rfl) (by rfl) (VPure.assign rfl rfl) ?_)) | refine VCode.seq ?_ | refine VCode.region rfl ?_ | refine VCode.block ?_ | refine VCode.skip ?_))
  refine VCode.nilObj 4 50 2 rfl ?_
  refine VCode.loop (fun m st => ∃ (i : Nat) (S : List Nd), i ≤ l.length ∧ m = l.length - i ∧ Few S (i * 10) ∧ (keys S).Nodup ∧ st = ⟨[(5, .val (.int .i64 (i : Int))), (0, .sl 4 (l.map encS)), (3, .ptr 0 0), (4, .ref 3)], [(0, .cells 57 [.ref 1, .ref 2]), (1, .nest 61 2 (S.map rowN) none), (2, .map (knownE S)), (3, .arr 50 2 ((keys S).map encP))], 4⟩) l.length ?_ ?_
  · (refine Less.mk (l := [0, 1, 2, 3]) hcx ?ss ?hh rfl (by decide) rfl ⟨0, [], by omega, by omega, ⟨by simp, by simp [sumE, lensE], by simp [sumP, lensP]⟩, by simp [keys], rfl⟩; (case ss => repeat (first | exact SubS.nil | refine SubS.cons rfl rfl ?_ | refine SubS.cons (congrArg (fun z => some (V.val (Value.int IntKind.i64 z))) (by omega)) rfl ?_ | refine SubS.cons (congrArg (fun z => some (V.val (Value.bool z))) (by assumption)) rfl ?_)); (case hh => repeat (first | exact SubH.nil | refine SubH.cons rfl rfl rfl ?_)))
  rintro m st ⟨i, S, hi, rfl, hF, hN, rfl⟩
  cases ht : l[i]? with
  | some x =>
    have hlt : i < l.length := (List.getElem?_eq_some_iff.1 ht).1
    have hF0 : Few S 100000 := few_mono hF (by omega)
    have hkl : (keys S).length = S.length := by simp [keys]
    have hSl : S.length ≤ 100000 := hF0.1
    (repeat (first | ((with_reducible refine VOps.same ?_); (first | (refine VOps.nil ?_; try dsimp only [VThen, VBlock]) | refine VOps.vp (by rfl) (by kernel_rfl) (by rfl) (VPure.move rfl rfl) ?_ | refine VOps.vp (by rfl) (by kernel_rfl) (by rfl) (VPure.len_map TI.und' rfl rfl) ?_ | refine VOps.vp (by rfl) (by kernel_rfl) (by rfl) (VPure.lss rfl rfl rfl) ?_)) | refine VCode.seq ?_ | refine VCode.region rfl ?_))
    refine VCode.cond_t rfl (decide_eq_true (by omega)) ?_
    (repeat (first | ((with_reducible refine VOps.same ?_); (first | (refine VOps.nil ?_; try dsimp only [VThen, VBlock]) | refine VOps.vp (by rfl) (by kernel_rfl) (by rfl) (VPure.move rfl rfl) ?_ | refine VOps.vp (by rfl) (by kernel_rfl) (by rfl) (VPure.assign rfl rfl) ?_ | refine VOps.vp (by rfl) (by kernel_rfl) (by rfl) (VPure.idx_map rfl rfl rfl (by assumption)) ?_ | refine VOps.vv (by rfl) (by kernel_rfl) (by rfl) (VLoad.elA rfl rfl (by rfl) (Nat.le_of_ble_eq_true (by rfl))) ?_ | refine VOps.alloc rfl rfl (by kernel_rfl) rfl (by kernel_rfl) rfl ?_ | refine VOps.store rfl rfl (by kernel_rfl) rfl rfl rfl rfl rfl rfl (Nat.le_of_ble_eq_true (by rfl)) rfl ?_)) | refine VCode.seq ?_ | refine VCode.region rfl ?_ | refine VCode.block ?_ | refine VCode.skip ?_))
    refine VCode.loop (fun m st => ∃ (j : Nat) (w : Int), j ≤ (keys S).length ∧ m = (keys S).length - j ∧ ((w = -1 ∧ ∀ y ∈ (keys S).take j, y ≠ (x.2.1, x.2.2.1)) ∨ ∃ p : Nat, w = (p : Int) ∧ (keys S)[p]? = some (x.2.1, x.2.2.1)) ∧ st = ⟨[(8, .val (.int .i64 (j : Int))), (7, .val (.int .i64 w)), (5, .val (.int .i64 (i : Int))), (0, .sl 4 (l.map encS)), (3, .ptr 0 0), (4, .ref 3), (6, .ptr 4 0)], [(0, .cells 57 [.ref 1, .ref 2]), (1, .nest 61 2 (S.map rowN) none), (2, .map (knownE S)), (3, .arr 50 2 ((keys S).map encP)), (4, .cells 31 [.val (.int .i64 x.1), .val (.int .i64 x.2.1), .val (.int .i64 x.2.2.1), .val (.int .i64 x.2.2.2)])], 5⟩) (keys S).length ?_ ?_
    · (refine Less.mk (l := [0, 1, 2, 3, 4]) hcx ?ss ?hh rfl (by decide) rfl ⟨0, -1, by omega, by omega, .inl ⟨rfl, by simp⟩, rfl⟩; (case ss => repeat (first | exact SubS.nil | refine SubS.cons rfl rfl ?_ | refine SubS.cons (congrArg (fun z => some (V.val (Value.int IntKind.i64 z))) (by omega)) rfl ?_ | refine SubS.cons (congrArg (fun z => some (V.val (Value.bool z))) (by assumption)) rfl ?_)); (case hh => repeat (first | exact SubH.nil | refine SubH.cons rfl rfl rfl ?_)))
    rintro m st ⟨j, w, hj, rfl, hw, rfl⟩
    cases htj : (keys S)[j]? with
    | some y =>
      have hltj : j < (keys S).length := (List.getElem?_eq_some_iff.1 htj).1
      (repeat (first | ((with_reducible refine VOps.same ?_); (first | (refine VOps.nil ?_; try dsimp only [VThen, VBlock]) | refine VOps.vp (by rfl) (by kernel_rfl) (by rfl) (VPure.move rfl rfl) ?_ | refine VOps.vp (by rfl) (by kernel_rfl) (by rfl) (VPure.len_arr TI.und' rfl rfl rfl) ?_ | refine VOps.vp (by rfl) (by kernel_rfl) (by rfl) (VPure.lss rfl rfl rfl) ?_)) | refine VCode.seq ?_ | refine VCode.region rfl ?_))
      refine VCode.cond_t rfl (decide_eq_true (by rw [List.length_map]; omega)) ?_
      (repeat (first | ((with_reducible refine VOps.same ?_); (first | (refine VOps.nil ?_; try dsimp only [VThen, VBlock]) | refine VOps.vp (by rfl) (by kernel_rfl) (by rfl) (VPure.move rfl rfl) ?_ | refine VOps.vp (by rfl) (by kernel_rfl) (by rfl) (VPure.idx_arrm rfl rfl rfl rfl (by assumption)) ?_ | refine VOps.vp (by rfl) (by kernel_rfl) (by rfl) (VPure.field_ptr rfl rfl rfl) ?_ | refine VOps.vv (by rfl) (by kernel_rfl) (by rfl) (VLoad.box1 rfl rfl rfl rfl (by rfl) (by decide)) ?_ | refine VOps.vv (by rfl) (by kernel_rfl) (by rfl) (VLoad.arrAm rfl rfl rfl (by rfl) (by assumption) rfl (Nat.le_of_ble_eq_true (by rfl)) (by decide)) ?_ | refine VOps.vp (by rfl) (by kernel_rfl) (by rfl) (VPure.buildA rfl (by kernel_rfl) rfl (by rfl)) ?_ | refine VOps.vp (by rfl) (by kernel_rfl) (by rfl) (VPure.eq2 rfl rfl rfl (by kernel_rfl)) ?_)) | refine VCode.seq ?_ | refine VCode.draw [] rfl ?_ | refine VCode.block ?_ | refine VCode.skip ?_))
      refine VCode.cond rfl (fun hp => ?_) (fun hp => ?_)
      · have he : y = (x.2.1, x.2.2.1) := by
          simp only [Bool.and_eq_true, decide_eq_true_eq] at hp
          exact Prod.ext hp.1 hp.2
        (repeat (first | ((with_reducible refine VOps.same ?_); (first | (refine VOps.nil ?_; try dsimp only [VThen, VBlock]) | refine VOps.vp (by rfl) (by kernel_rfl) (by rfl) (VPure.move rfl rfl) ?_ | refine VOps.vp (by rfl) (by kernel_rfl) (by rfl) (VPure.assign rfl rfl) ?_ | refine VOps.vp (by rfl) (by kernel_rfl) (by rfl) (VPure.addK rfl rfl rfl (by omega)) ?_)) | refine VCode.region rfl ?_))
        (refine Less.mk (l := [0, 1, 2, 3, 4]) hcx ?ss ?hh rfl (by decide) rfl ⟨_, ?_, j + 1, (j : Int), by omega, rfl, .inr ⟨j, rfl, by rw [htj, he]⟩, rfl⟩; (case ss => repeat (first | exact SubS.nil | refine SubS.cons rfl rfl ?_ | refine SubS.cons (congrArg (fun z => some (V.val (Value.int IntKind.i64 z))) (by omega)) rfl ?_ | refine SubS.cons (congrArg (fun z => some (V.val (Value.bool z))) (by assumption)) rfl ?_)); (case hh => repeat (first | exact SubH.nil | refine SubH.cons rfl rfl rfl ?_)))
        omega
      · have he : y ≠ (x.2.1, x.2.2.1) := by
          rintro rfl
          simp at hp
        (repeat (first | ((with_reducible refine VOps.same ?_); (first | (refine VOps.nil ?_; try dsimp only [VThen, VBlock]) | refine VOps.vp (by rfl) (by kernel_rfl) (by rfl) (VPure.move rfl rfl) ?_ | refine VOps.vp (by rfl) (by kernel_rfl) (by rfl) (VPure.assign rfl rfl) ?_ | refine VOps.vp (by rfl) (by kernel_rfl) (by rfl) (VPure.addK rfl rfl rfl (by omega)) ?_)) | refine VCode.region rfl ?_ | refine VCode.skip ?_))
        (refine Less.mk (l := [0, 1, 2, 3, 4]) hcx ?ss ?hh rfl (by decide) rfl ⟨_, ?_, j + 1, w, by omega, rfl, ?_, rfl⟩; (case ss => repeat (first | exact SubS.nil | refine SubS.cons rfl rfl ?_ | refine SubS.cons (congrArg (fun z => some (V.val (Value.int IntKind.i64 z))) (by omega)) rfl ?_ | refine SubS.cons (congrArg (fun z => some (V.val (Value.bool z))) (by assumption)) rfl ?_)); (case hh => repeat (first | exact SubH.nil | refine SubH.cons rfl rfl rfl ?_)))
        · omega
        · rcases hw with ⟨h1, h2⟩ | h
          · refine .inl ⟨h1, fun z hz => ?_⟩
            rw [List.take_add_one, htj] at hz
            rcases List.mem_append.1 hz with h | h
            · exact h2 z h
            · obtain rfl := List.mem_singleton.1 h
              exact he
          · exact .inr h
    | none =>
      have hgej : (keys S).length ≤ j := List.getElem?_eq_none_iff.1 htj
      rw [List.take_of_length_le hgej] at hw
      (repeat (first | ((with_reducible refine VOps.same ?_); (first | (refine VOps.nil ?_; try dsimp only [VThen, VBlock]) | refine VOps.vp (by rfl) (by kernel_rfl) (by rfl) (VPure.move rfl rfl) ?_ | refine VOps.vp (by rfl) (by kernel_rfl) (by rfl) (VPure.len_arr TI.und' rfl rfl rfl) ?_ | refine VOps.vp (by rfl) (by kernel_rfl) (by rfl) (VPure.lss rfl rfl rfl) ?_)) | refine VCode.seq ?_ | refine VCode.region rfl ?_))
      refine VCode.cond_f rfl (decide_eq_false (by rw [List.length_map]; omega)) ?_
      obtain ⟨T, k, hT⟩ : ∃ (T : List Nd) (k : Nat), T = addNode S x.2.1 x.2.2.1 ∧ k = nodeAt S x.2.1 x.2.2.1 := ⟨_, _, rfl, rfl⟩
      have hFT : Few T (i * 10 + 1) := by rw [hT.1]; exact few_node hF _ _
      have hk : k < T.length := by rw [hT.1, hT.2]; exact nodeAt_lt _ _ _
      have n1 := node_f hF0 x.2.1 x.2.2.1
      rw [← hT.1, ← hT.2] at n1
      have hkT : (keys T).length = T.length := by simp [keys]
      (repeat (first | ((with_reducible refine VOps.same ?_); (first | refine VOps.vp (by rfl) (by kernel_rfl) (by rfl) (VPure.move rfl rfl) ?_ | refine VOps.vp (by rfl) (by kernel_rfl) (by rfl) (VPure.field_ptr rfl rfl rfl) ?_ | refine VOps.vv (by rfl) (by kernel_rfl) (by rfl) (VLoad.box1 rfl rfl rfl rfl (by rfl) (by decide)) ?_)) | refine VCode.seq ?_ | refine VCode.region rfl ?_ | refine VCode.exit ?_))
      (refine VOps.callL (ch := [(0, .cells 57 [.ref 1, .ref 2]), (1, .nest 61 2 (S.map rowN) none), (2, .map (knownE S))]) [0, 1, 2] rfl Try.func9 rfl (by kernel_rfl) rfl rfl rfl rfl ?hh (by decide) rfl rfl rfl (n1) rfl (by rfl) rfl ?_; (case hh => repeat (first | exact SubH.nil | refine SubH.cons rfl rfl rfl ?_)))
      (repeat (first | ((with_reducible refine VOps.same ?_); (first | (refine VOps.nil ?_; try dsimp only [VThen, VBlock]) | refine VOps.vp (by rfl) (by kernel_rfl) (by rfl) (VPure.move rfl rfl) ?_ | refine VOps.vp (by rfl) (by kernel_rfl) (by rfl) (VPure.assign rfl rfl) ?_ | refine VOps.vp (by rfl) (by kernel_rfl) (by rfl) (VPure.extract rfl rfl rfl) ?_ | refine VOps.vp (by rfl) (by kernel_rfl) (by rfl) (VPure.lss rfl rfl rfl) ?_)) | refine VCode.seq ?_ | refine VCode.region rfl ?_))
      refine VCode.thenI (I := fun st => (keys T).Nodup ∧ st = ⟨[(7, .val (.int .i64 (k : Int))), (9, .val (.int .i64 (k : Int))), (5, .val (.int .i64 (i : Int))), (0, .sl 4 (l.map encS)), (3, .ptr 0 0), (4, .ref 3), (6, .ptr 4 0)], [(0, .cells 57 [.ref 1, .ref 2]), (1, .nest 61 2 (T.map rowN) none), (2, .map (knownE T)), (3, .arr 50 2 ((keys T).map encP)), (4, .cells 31 [.val (.int .i64 x.1), .val (.int .i64 x.2.1), .val (.int .i64 x.2.2.1), .val (.int .i64 x.2.2.2)])], 5⟩) ?_ ?_
      · rcases hw with ⟨rfl, hw⟩ | ⟨p, rfl, hp⟩
        · have hno : (x.2.1, x.2.2.1) ∉ keys S := fun h => hw _ h rfl
          obtain ⟨z1, z2, z3⟩ := nodeAt_none hno
          rw [← hT.1] at z3
          rw [← hT.2] at z1
          have hNT : (keys T).Nodup := by
            rw [z3]
            exact List.nodup_append.2 ⟨hN, by simp, by
              intro a ha b hb
              obtain rfl := List.mem_singleton.1 hb
              rintro rfl
              exact hno ha⟩
          rw [z2]
          refine VCode.cond_t rfl rfl ?_
          (repeat (first | ((with_reducible refine VOps.same ?_); (first | (refine VOps.nil ?_; try dsimp only [VThen, VBlock]) | refine VOps.vp (by rfl) (by kernel_rfl) (by rfl) (VPure.move rfl rfl) ?_ | refine VOps.vp (by rfl) (by kernel_rfl) (by rfl) (VPure.assign rfl rfl) ?_ | refine VOps.vp (by rfl) (by kernel_rfl) (by rfl) (VPure.len_arr TI.und' rfl rfl rfl) ?_ | refine VOps.vp (by rfl) (by kernel_rfl) (by rfl) (VPure.field_ptr rfl rfl rfl) ?_ | refine VOps.vv (by rfl) (by kernel_rfl) (by rfl) (VLoad.box1 rfl rfl rfl rfl (by rfl) (by decide)) ?_ | refine VOps.one rfl rfl (by kernel_rfl) rfl (by rfl) (by decide) (by decide) rfl (by rfl) (by rfl) ?_ | refine VOps.vp (by rfl) (by kernel_rfl) (by rfl) (VPure.buildA rfl (by kernel_rfl) rfl (by rfl)) ?_)) | refine VCode.seq ?_ | refine VCode.region rfl ?_))
          refine VOps.append (zs := (keys S ++ [(x.2.1, x.2.2.1)]).map encP) rfl rfl (by kernel_rfl) rfl (by rfl) (by decide) rfl (.arr rfl) rfl (.arr rfl) (by simp only [List.length_append, List.length_cons, List.length_nil, List.length_map]; unfold most; omega) (by simp only [List.length_append, List.length_cons, List.length_nil, List.length_map]; unfold most; omega) rfl ( by rw [List.map_append]; rfl) ?_
          (repeat (first | ((with_reducible refine VOps.same ?_); (first | (refine VOps.nil ?_; try dsimp only [VThen, VBlock]) | refine VOps.vp (by rfl) (by kernel_rfl) (by rfl) (VPure.move rfl rfl) ?_ | refine VOps.vp (by rfl) (by kernel_rfl) (by rfl) (VPure.assign rfl rfl) ?_ | refine VOps.vp (by rfl) (by kernel_rfl) (by rfl) (VPure.not rfl rfl) ?_)) | refine VCode.seq ?_ | refine VCode.region rfl ?_))
          refine VCode.cond_f rfl rfl ?_
          refine VCode.says (d := 7) (v := .val (.int .i64 (k : Int))) rfl (by rw [List.length_map, hkl, z1]) ?_
          (repeat (first | refine VCode.skip ?_))
          rw [← z3]
          (refine Less.mk (l := [0, 5, 2, 7, 4]) hcx ?ss ?hh rfl (by decide) rfl ⟨hNT, rfl⟩; (case ss => repeat (first | exact SubS.nil | refine SubS.cons rfl rfl ?_ | refine SubS.cons (congrArg (fun z => some (V.val (Value.int IntKind.i64 z))) (by omega)) rfl ?_ | refine SubS.cons (congrArg (fun z => some (V.val (Value.bool z))) (by assumption)) rfl ?_)); (case hh => repeat (first | exact SubH.nil | refine SubH.cons rfl rfl rfl ?_)))
        · obtain ⟨z1, z2⟩ := nodeAt_key hN hp
          rw [← hT.2] at z1
          have hTS : T = S := by rw [hT.1]; exact addNode_same z2
          have hNT : (keys T).Nodup := by rw [hTS]; exact hN
          have hk0 : (p : Int) = (k : Int) := by rw [z1]
          rw [z2]
          refine VCode.cond_f rfl (decide_eq_false (by omega)) ?_
          (repeat (first | ((with_reducible refine VOps.same ?_); (first | (refine VOps.nil ?_; try dsimp only [VThen, VBlock]) | refine VOps.vp (by rfl) (by kernel_rfl) (by rfl) (VPure.move rfl rfl) ?_)) | refine VCode.seq ?_ | refine VCode.region rfl ?_))
          refine VCode.cond_f rfl rfl ?_
          refine VCode.says (d := 7) (v := .val (.int .i64 (k : Int))) rfl (by rw [hk0]) ?_
          (repeat (first | refine VCode.skip ?_))
          rw [show keys S = keys T by rw [hTS]]
          (refine Less.mk (l := [0, 5, 2, 3, 4]) hcx ?ss ?hh rfl (by decide) rfl ⟨hNT, rfl⟩; (case ss => repeat (first | exact SubS.nil | refine SubS.cons rfl rfl ?_ | refine SubS.cons (congrArg (fun z => some (V.val (Value.int IntKind.i64 z))) (by omega)) rfl ?_ | refine SubS.cons (congrArg (fun z => some (V.val (Value.bool z))) (by assumption)) rfl ?_)); (case hh => repeat (first | exact SubH.nil | refine SubH.cons rfl rfl rfl ?_)))
      clear hw
      rintro st ⟨hNT, rfl⟩
      (repeat (first | ((with_reducible refine VOps.same ?_); (first | (refine VOps.nil ?_; try dsimp only [VThen, VBlock]) | refine VOps.vp (by rfl) (by kernel_rfl) (by rfl) (VPure.move rfl rfl) ?_ | refine VOps.vp (by rfl) (by kernel_rfl) (by rfl) (VPure.nei rfl rfl rfl) ?_)) | refine VCode.seq ?_ | refine VCode.region rfl ?_))
      refine VCode.cond_f rfl (by simp) ?_
      refine VCode.lessTo ⟨[(9, .val (.int .i64 (k : Int))), (5, .val (.int .i64 (i : Int))), (0, .sl 4 (l.map encS)), (3, .ptr 0 0), (4, .ref 3), (6, .ptr 4 0)], [(0, .cells 57 [.ref 1, .ref 2]), (1, .nest 61 2 (T.map rowN) none), (2, .map (knownE T)), (3, .arr 50 2 ((keys T).map encP)), (4, .cells 31 [.val (.int .i64 x.1), .val (.int .i64 x.2.1), .val (.int .i64 x.2.2.1), .val (.int .i64 x.2.2.2)])], 5⟩ ?_ ?_
      · (refine Less.mk (l := [0, 1, 2, 3, 4]) hcx ?ss ?hh rfl (by decide) rfl rfl; (case ss => repeat (first | exact SubS.nil | refine SubS.cons rfl rfl ?_ | refine SubS.cons (congrArg (fun z => some (V.val (Value.int IntKind.i64 z))) (by omega)) rfl ?_ | refine SubS.cons (congrArg (fun z => some (V.val (Value.bool z))) (by assumption)) rfl ?_)); (case hh => repeat (first | exact SubH.nil | refine SubH.cons rfl rfl rfl ?_)))
      clear n1 hT hkT hF hF0 hN hkl hSl htj hj hgej
      clear S
      obtain ⟨U, W, e, p, was, now, pops, more, c1, c2, c3, c4, c5, c6, hnow, hmore, hkW, hFW, b1, b2⟩ := order_step hFT (by omega) hk x.2.2.2
      rw [← hkW] at hNT ⊢
      (repeat (first | ((with_reducible refine VOps.same ?_); (first | refine VOps.vp (by rfl) (by kernel_rfl) (by rfl) (VPure.move rfl rfl) ?_)) | refine VCode.seq ?_ | refine VCode.region rfl ?_ | refine VCode.skip ?_))
      (refine VOps.callL (ch := [(0, .cells 57 [.ref 1, .ref 2]), (1, .nest 61 2 (T.map rowN) none), (2, .map (knownE T))]) [0, 1, 2] rfl Try.func20 rfl (by kernel_rfl) rfl rfl rfl rfl ?hh (by decide) rfl rfl rfl (c1) rfl (by rfl) rfl ?_; (case hh => repeat (first | exact SubH.nil | refine SubH.cons rfl rfl rfl ?_)))
      (repeat (first | ((with_reducible refine VOps.same ?_); (first | refine VOps.vp (by rfl) (by kernel_rfl) (by rfl) (VPure.move rfl rfl) ?_))))
      (refine VOps.callL (ch := [(0, .cells 57 [.ref 1, .ref 2]), (1, .nest 61 2 (T.map rowN) none), (2, .map (knownE T))]) [0, 5, 2] rfl Try.func21 rfl (by kernel_rfl) rfl rfl rfl rfl ?hh (by decide) rfl rfl rfl (c2) rfl (by rfl) rfl ?_; (case hh => repeat (first | exact SubH.nil | refine SubH.cons rfl rfl rfl ?_)))
      (repeat (first | ((with_reducible refine VOps.same ?_); (first | (refine VOps.nil ?_; try dsimp only [VThen, VBlock]) | refine VOps.vp (by rfl) (by kernel_rfl) (by rfl) (VPure.assign rfl rfl) ?_)) | refine VCode.seq ?_))
      refine VCode.thenTo ⟨[(13, .val (.bool e)), (14, .val (.bool p)), (11, .sl 2 (was.map encP)), (12, .sl 1 (pops.map encZ)), (9, .val (.int .i64 (k : Int))), (5, .val (.int .i64 (i : Int))), (0, .sl 4 (l.map encS)), (3, .ptr 0 0), (4, .ref 3), (6, .ptr 4 0)], [(0, .cells 57 [.ref 1, .ref 2]), (1, .nest 61 2 (W.map rowN) none), (2, .map (knownE W)), (3, .arr 50 2 ((keys W).map encP)), (4, .cells 31 [.val (.int .i64 x.1), .val (.int .i64 x.2.1), .val (.int .i64 x.2.2.1), .val (.int .i64 x.2.2.2)])], 5⟩ ?_ ?_
      · refine VCode.drawAny [0, 6, 2, 7] (by kernel_rfl) rfl ?_
        refine VAny.pureI (i := 0) rfl rfl (by kernel_rfl) rfl (VPure.move rfl rfl) ?_
        refine VAny.pureI (i := 1) rfl rfl (by kernel_rfl) rfl (VPure.move rfl rfl) ?_
        refine VAny.pureI (i := 2) rfl rfl (by kernel_rfl) rfl (VPure.field_ptr rfl rfl rfl) ?_
        refine VAny.loadI (i := 3) rfl rfl (by kernel_rfl) rfl (VLoad.box1 rfl rfl rfl rfl (by rfl) (by decide)) ?_
        refine VAny.pureI (i := 4) rfl rfl (by kernel_rfl) rfl (VPure.move rfl rfl) ?_
        refine VAny.pureI (i := 6) rfl rfl (by kernel_rfl) rfl (VPure.move rfl rfl) ?_
        refine VAny.pureI (i := 7) rfl rfl (by kernel_rfl) rfl (VPure.move rfl rfl) ?_
        refine VAny.pureI (i := 8) rfl rfl (by kernel_rfl) rfl (VPure.field_ptr rfl rfl rfl) ?_
        refine VAny.loadI (i := 9) rfl rfl (by kernel_rfl) rfl (VLoad.box1 rfl rfl rfl rfl (by rfl) (by decide)) ?_
        refine VAny.movesI (is := [5]) (by kernel_rfl) (by simp) rfl (all1 ?_)
        · (refine VMv.callL (ch := [(0, .cells 57 [.ref 1, .ref 2]), (1, .nest 61 2 (T.map rowN) none), (2, .map (knownE T))]) [0, 6, 2] rfl rfl Try.func11 rfl rfl rfl rfl rfl rfl ?hh (by decide) rfl rfl rfl (c3) rfl (by rfl) rfl ?_; (case hh => repeat (first | exact SubH.nil | refine SubH.cons rfl rfl rfl ?_)))
          refine VAny.movesI (is := [10]) (by kernel_rfl) (by simp) rfl (all1 ?_)
          · (refine VMv.callL (ch := [(0, .cells 57 [.ref 1, .ref 2]), (1, .nest 61 2 (U.map rowN) none), (2, .map (knownE U))]) [0, 7, 2] rfl rfl Try.func13 rfl rfl rfl rfl rfl rfl ?hh (by decide) rfl rfl rfl (c4) rfl (by rfl) rfl ?_; (case hh => repeat (first | exact SubH.nil | refine SubH.cons rfl rfl rfl ?_)))
            refine VAny.pureI (i := 11) rfl rfl (by kernel_rfl) rfl (VPure.assign rfl rfl) ?_
            refine VAny.pureI (i := 12) rfl rfl (by kernel_rfl) rfl (VPure.assign rfl rfl) ?_
            refine VAny.done ?_
            (refine Less.mk (l := [0, 8, 2, 3, 4]) hcx ?ss ?hh rfl (by decide) rfl rfl; (case ss => repeat (first | exact SubS.nil | refine SubS.cons rfl rfl ?_ | refine SubS.cons (congrArg (fun z => some (V.val (Value.int IntKind.i64 z))) (by omega)) rfl ?_ | refine SubS.cons (congrArg (fun z => some (V.val (Value.bool z))) (by assumption)) rfl ?_)); (case hh => repeat (first | exact SubH.nil | refine SubH.cons rfl rfl rfl ?_)))
      (repeat (first | ((with_reducible refine VOps.same ?_); (first | refine VOps.vp (by rfl) (by kernel_rfl) (by rfl) (VPure.move rfl rfl) ?_)) | refine VCode.seq ?_ | refine VCode.region rfl ?_))
      (refine VOps.callL (ch := [(0, .cells 57 [.ref 1, .ref 2]), (1, .nest 61 2 (W.map rowN) none), (2, .map (knownE W))]) [0, 1, 2] rfl Try.func20 rfl (by kernel_rfl) rfl rfl rfl rfl ?hh (by decide) rfl rfl rfl (c5) rfl (by rfl) rfl ?_; (case hh => repeat (first | exact SubH.nil | refine SubH.cons rfl rfl rfl ?_)))
      (repeat (first | ((with_reducible refine VOps.same ?_); (first | refine VOps.vp (by rfl) (by kernel_rfl) (by rfl) (VPure.move rfl rfl) ?_))))
      (refine VOps.callL (ch := [(0, .cells 57 [.ref 1, .ref 2]), (1, .nest 61 2 (W.map rowN) none), (2, .map (knownE W))]) [0, 5, 2] rfl Try.func21 rfl (by kernel_rfl) rfl rfl rfl rfl ?hh (by decide) rfl rfl rfl (c6) rfl (by rfl) rfl ?_; (case hh => repeat (first | exact SubH.nil | refine SubH.cons rfl rfl rfl ?_)))
      cases e with
      | true =>
        obtain rfl : now = was ++ [(x.2.2.2, (k : Int))] := hnow
        have hix : (was ++ [(x.2.2.2, (k : Int))])[was.length]? = some (x.2.2.2, (k : Int)) := by simp
        (repeat (first | ((with_reducible refine VOps.same ?_); (first | (refine VOps.nil ?_; try dsimp only [VThen, VBlock]) | refine VOps.vp (by rfl) (by kernel_rfl) (by rfl) (VPure.move rfl rfl) ?_ | refine VOps.vp (by rfl) (by kernel_rfl) (by rfl) (VPure.assign rfl rfl) ?_ | refine VOps.vp (by rfl) (by kernel_rfl) (by rfl) (VPure.len_map TI.und' rfl rfl) ?_ | refine VOps.vp (by rfl) (by kernel_rfl) (by rfl) (VPure.addK rfl rfl rfl (by omega)) ?_ | refine VOps.vp (by rfl) (by kernel_rfl) (by rfl) (VPure.nei rfl rfl rfl) ?_)) | refine VCode.seq ?_ | refine VCode.draw [] rfl ?_))
        refine VOps.says (d := 118) (v := .val (.bool false)) rfl (by simp) ?_
        (repeat (first | ((with_reducible refine VOps.same ?_); (first | refine VOps.vp (by rfl) (by kernel_rfl) (by rfl) (VPure.move rfl rfl) ?_ | refine VOps.vp (by rfl) (by kernel_rfl) (by rfl) (VPure.len_map TI.und' rfl rfl) ?_ | refine VOps.vp (by rfl) (by kernel_rfl) (by rfl) (VPure.idx_map rfl rfl rfl (by assumption)) ?_ | refine VOps.vp (by rfl) (by kernel_rfl) (by rfl) (VPure.field_ptr rfl rfl rfl) ?_ | refine VOps.vv (by rfl) (by kernel_rfl) (by rfl) (VLoad.box1 rfl rfl rfl rfl (by rfl) (by decide)) ?_ | refine VOps.vv (by rfl) (by kernel_rfl) (by rfl) (VLoad.elA rfl rfl (by rfl) (Nat.le_of_ble_eq_true (by rfl))) ?_ | refine VOps.vp (by rfl) (by kernel_rfl) (by rfl) (VPure.neA rfl rfl rfl (by rfl)) ?_ | refine VOps.vp (by rfl) (by kernel_rfl) (by rfl) (VPure.pick_t rfl rfl rfl) ?_ | refine VOps.vp (by rfl) (by kernel_rfl) (by rfl) (VPure.pick_f rfl rfl rfl) ?_ | refine VOps.vp (by rfl) (by kernel_rfl) (by rfl) (VPure.buildC rfl (by kernel_rfl) rfl (by rfl)) ?_))))
        refine VOps.says (d := 131) (v := .val (.bool false)) rfl (by simp) ?_
        (repeat (first | ((with_reducible refine VOps.same ?_); (first | refine VOps.vp (by rfl) (by kernel_rfl) (by rfl) (VPure.move rfl rfl) ?_ | refine VOps.vp (by rfl) (by kernel_rfl) (by rfl) (VPure.not rfl rfl) ?_ | refine VOps.vp (by rfl) (by kernel_rfl) (by rfl) (VPure.pick_f rfl rfl rfl) ?_ | refine VOps.passv rfl (by kernel_rfl) rfl ?_))))
        cases p with
        | true =>
          obtain rfl : more = pops ++ [x.2.2.2] := hmore
          have hiy : (pops ++ [x.2.2.2])[pops.length]? = some x.2.2.2 := by simp
          have hints := ints_v ((pops ++ [x.2.2.2]).take pops.length) pops (by simp; omega)
          rw [decide_eq_true (by simp)] at hints
          (repeat (first | ((with_reducible refine VOps.same ?_); (first | refine VOps.vp (by rfl) (by kernel_rfl) (by rfl) (VPure.move rfl rfl) ?_ | refine VOps.vp (by rfl) (by kernel_rfl) (by rfl) (VPure.len_map TI.und' rfl rfl) ?_ | refine VOps.vp (by rfl) (by kernel_rfl) (by rfl) (VPure.addK rfl rfl rfl (by omega)) ?_ | refine VOps.vp (by rfl) (by kernel_rfl) (by rfl) (VPure.nei rfl rfl rfl) ?_))))
          refine VOps.says (d := 151) (v := .val (.bool false)) rfl (by simp) ?_
          (repeat (first | ((with_reducible refine VOps.same ?_); (first | refine VOps.vp (by rfl) (by kernel_rfl) (by rfl) (VPure.move rfl rfl) ?_ | refine VOps.vp (by rfl) (by kernel_rfl) (by rfl) (VPure.len_map TI.und' rfl rfl) ?_ | refine VOps.vp (by rfl) (by kernel_rfl) (by rfl) (VPure.idx_map rfl rfl rfl (by assumption)) ?_ | refine VOps.vp (by rfl) (by kernel_rfl) (by rfl) (VPure.field_ptr rfl rfl rfl) ?_ | refine VOps.vv (by rfl) (by kernel_rfl) (by rfl) (VLoad.el1 rfl rfl rfl (by rfl)) ?_ | refine VOps.vv (by rfl) (by kernel_rfl) (by rfl) (VLoad.box1 rfl rfl rfl rfl (by rfl) (by decide)) ?_ | refine VOps.vp (by rfl) (by kernel_rfl) (by rfl) (VPure.nei rfl rfl rfl) ?_ | refine VOps.vp (by rfl) (by kernel_rfl) (by rfl) (VPure.pick_t rfl rfl rfl) ?_ | refine VOps.vp (by rfl) (by kernel_rfl) (by rfl) (VPure.pick_f rfl rfl rfl) ?_))))
          refine VOps.says (d := 163) (v := .val (.bool false)) rfl (by simp) ?_
          (repeat (first | ((with_reducible refine VOps.same ?_); (first | refine VOps.vp (by rfl) (by kernel_rfl) (by rfl) (VPure.move rfl rfl) ?_ | refine VOps.vp (by rfl) (by kernel_rfl) (by rfl) (VPure.len_map TI.und' rfl rfl) ?_ | (refine VOps.vp (by rfl) (by kernel_rfl) (by rfl) (VPure.cut_take rfl rfl rfl ?b1) ?_; (case b1 => (first | omega | (simp only [List.length_map, List.length_append, List.length_cons, List.length_nil] at *; omega) | (simp; omega)))) | refine VOps.vp (by rfl) (by kernel_rfl) (by rfl) (VPure.not rfl rfl) ?_ | refine VOps.vp (by rfl) (by kernel_rfl) (by rfl) (VPure.pick_f rfl rfl rfl) ?_ | refine VOps.passv rfl (by kernel_rfl) rfl ?_))))
          refine VOps.pure rfl Try.func22 rfl (by kernel_rfl) rfl rfl rfl rfl rfl rfl rfl (hints) ?_
          (repeat (first | ((with_reducible refine VOps.same ?_); (first | (refine VOps.nil ?_; try dsimp only [VThen, VBlock]) | refine VOps.vp (by rfl) (by kernel_rfl) (by rfl) (VPure.not rfl rfl) ?_ | refine VOps.vp (by rfl) (by kernel_rfl) (by rfl) (VPure.pick_f rfl rfl rfl) ?_))))
          refine VCode.cond_f rfl rfl ?_
          (repeat (first | ((with_reducible refine VOps.same ?_); (first | (refine VOps.nil ?_; try dsimp only [VThen, VBlock]) | refine VOps.vp (by rfl) (by kernel_rfl) (by rfl) (VPure.move rfl rfl) ?_ | refine VOps.vp (by rfl) (by kernel_rfl) (by rfl) (VPure.assign rfl rfl) ?_ | refine VOps.vp (by rfl) (by kernel_rfl) (by rfl) (VPure.addK rfl rfl rfl (by omega)) ?_)) | refine VCode.region rfl ?_ | refine VCode.skip ?_))
          (refine Less.mk (l := [0, 6, 2, 3]) hcx ?ss ?hh rfl (by decide) rfl ⟨_, ?_, i + 1, W, by omega, rfl, few_mono hFW (by omega), hNT, rfl⟩; (case ss => repeat (first | exact SubS.nil | refine SubS.cons rfl rfl ?_ | refine SubS.cons (congrArg (fun z => some (V.val (Value.int IntKind.i64 z))) (by omega)) rfl ?_ | refine SubS.cons (congrArg (fun z => some (V.val (Value.bool z))) (by assumption)) rfl ?_)); (case hh => repeat (first | exact SubH.nil | refine SubH.cons rfl rfl rfl ?_)))
          omega
        | false =>
          obtain rfl : more = pops := hmore
          have hints := ints_v (more.take more.length) more (by simp; omega)
          rw [decide_eq_true (by simp)] at hints
          (repeat (first | ((with_reducible refine VOps.same ?_); (first | refine VOps.vp (by rfl) (by kernel_rfl) (by rfl) (VPure.move rfl rfl) ?_ | refine VOps.vp (by rfl) (by kernel_rfl) (by rfl) (VPure.len_map TI.und' rfl rfl) ?_ | refine VOps.vp (by rfl) (by kernel_rfl) (by rfl) (VPure.nei rfl rfl rfl) ?_ | refine VOps.vp (by rfl) (by kernel_rfl) (by rfl) (VPure.not rfl rfl) ?_ | refine VOps.vp (by rfl) (by kernel_rfl) (by rfl) (VPure.pick_t rfl rfl rfl) ?_ | refine VOps.vp (by rfl) (by kernel_rfl) (by rfl) (VPure.pick_f rfl rfl rfl) ?_ | refine VOps.passv rfl (by kernel_rfl) rfl ?_))))
          refine VOps.says (d := 174) (v := .val (.bool false)) rfl (by simp) ?_
          (repeat (first | ((with_reducible refine VOps.same ?_); (first | refine VOps.vp (by rfl) (by kernel_rfl) (by rfl) (VPure.move rfl rfl) ?_ | refine VOps.vp (by rfl) (by kernel_rfl) (by rfl) (VPure.len_map TI.und' rfl rfl) ?_ | (refine VOps.vp (by rfl) (by kernel_rfl) (by rfl) (VPure.cut_take rfl rfl rfl ?b1) ?_; (case b1 => (first | omega | (simp only [List.length_map, List.length_append, List.length_cons, List.length_nil] at *; omega) | (simp; omega))))))))
          refine VOps.pure rfl Try.func22 rfl (by kernel_rfl) rfl rfl rfl rfl rfl rfl rfl (hints) ?_
          (repeat (first | ((with_reducible refine VOps.same ?_); (first | (refine VOps.nil ?_; try dsimp only [VThen, VBlock]) | refine VOps.vp (by rfl) (by kernel_rfl) (by rfl) (VPure.not rfl rfl) ?_ | refine VOps.vp (by rfl) (by kernel_rfl) (by rfl) (VPure.pick_f rfl rfl rfl) ?_))))
          refine VCode.cond_f rfl rfl ?_
          (repeat (first | ((with_reducible refine VOps.same ?_); (first | (refine VOps.nil ?_; try dsimp only [VThen, VBlock]) | refine VOps.vp (by rfl) (by kernel_rfl) (by rfl) (VPure.move rfl rfl) ?_ | refine VOps.vp (by rfl) (by kernel_rfl) (by rfl) (VPure.assign rfl rfl) ?_ | refine VOps.vp (by rfl) (by kernel_rfl) (by rfl) (VPure.addK rfl rfl rfl (by omega)) ?_)) | refine VCode.region rfl ?_ | refine VCode.skip ?_))
          (refine Less.mk (l := [0, 6, 2, 3]) hcx ?ss ?hh rfl (by decide) rfl ⟨_, ?_, i + 1, W, by omega, rfl, few_mono hFW (by omega), hNT, rfl⟩; (case ss => repeat (first | exact SubS.nil | refine SubS.cons rfl rfl ?_ | refine SubS.cons (congrArg (fun z => some (V.val (Value.int IntKind.i64 z))) (by omega)) rfl ?_ | refine SubS.cons (congrArg (fun z => some (V.val (Value.bool z))) (by assumption)) rfl ?_)); (case hh => repeat (first | exact SubH.nil | refine SubH.cons rfl rfl rfl ?_)))
          omega
      | false =>
        obtain rfl : now = was := hnow
        (repeat (first | ((with_reducible refine VOps.same ?_); (first | (refine VOps.nil ?_; try dsimp only [VThen, VBlock]) | refine VOps.vp (by rfl) (by kernel_rfl) (by rfl) (VPure.move rfl rfl) ?_ | refine VOps.vp (by rfl) (by kernel_rfl) (by rfl) (VPure.assign rfl rfl) ?_ | refine VOps.vp (by rfl) (by kernel_rfl) (by rfl) (VPure.len_map TI.und' rfl rfl) ?_ | refine VOps.vp (by rfl) (by kernel_rfl) (by rfl) (VPure.nei rfl rfl rfl) ?_ | refine VOps.vp (by rfl) (by kernel_rfl) (by rfl) (VPure.not rfl rfl) ?_ | refine VOps.vp (by rfl) (by kernel_rfl) (by rfl) (VPure.pick_t rfl rfl rfl) ?_ | refine VOps.vp (by rfl) (by kernel_rfl) (by rfl) (VPure.pick_f rfl rfl rfl) ?_ | refine VOps.passv rfl (by kernel_rfl) rfl ?_)) | refine VCode.seq ?_ | refine VCode.draw [] rfl ?_))
        refine VOps.says (d := 142) (v := .val (.bool false)) rfl (by simp) ?_
        (repeat (first | ((with_reducible refine VOps.same ?_); (first | refine VOps.vp (by rfl) (by kernel_rfl) (by rfl) (VPure.move rfl rfl) ?_))))
        cases p with
        | true =>
          obtain rfl : more = pops ++ [x.2.2.2] := hmore
          have hiy : (pops ++ [x.2.2.2])[pops.length]? = some x.2.2.2 := by simp
          have hints := ints_v ((pops ++ [x.2.2.2]).take pops.length) pops (by simp; omega)
          rw [decide_eq_true (by simp)] at hints
          (repeat (first | ((with_reducible refine VOps.same ?_); (first | refine VOps.vp (by rfl) (by kernel_rfl) (by rfl) (VPure.move rfl rfl) ?_ | refine VOps.vp (by rfl) (by kernel_rfl) (by rfl) (VPure.len_map TI.und' rfl rfl) ?_ | refine VOps.vp (by rfl) (by kernel_rfl) (by rfl) (VPure.addK rfl rfl rfl (by omega)) ?_ | refine VOps.vp (by rfl) (by kernel_rfl) (by rfl) (VPure.nei rfl rfl rfl) ?_))))
          refine VOps.says (d := 151) (v := .val (.bool false)) rfl (by simp) ?_
          (repeat (first | ((with_reducible refine VOps.same ?_); (first | refine VOps.vp (by rfl) (by kernel_rfl) (by rfl) (VPure.move rfl rfl) ?_ | refine VOps.vp (by rfl) (by kernel_rfl) (by rfl) (VPure.len_map TI.und' rfl rfl) ?_ | refine VOps.vp (by rfl) (by kernel_rfl) (by rfl) (VPure.idx_map rfl rfl rfl (by assumption)) ?_ | refine VOps.vp (by rfl) (by kernel_rfl) (by rfl) (VPure.field_ptr rfl rfl rfl) ?_ | refine VOps.vv (by rfl) (by kernel_rfl) (by rfl) (VLoad.el1 rfl rfl rfl (by rfl)) ?_ | refine VOps.vv (by rfl) (by kernel_rfl) (by rfl) (VLoad.box1 rfl rfl rfl rfl (by rfl) (by decide)) ?_ | refine VOps.vp (by rfl) (by kernel_rfl) (by rfl) (VPure.nei rfl rfl rfl) ?_ | refine VOps.vp (by rfl) (by kernel_rfl) (by rfl) (VPure.pick_t rfl rfl rfl) ?_ | refine VOps.vp (by rfl) (by kernel_rfl) (by rfl) (VPure.pick_f rfl rfl rfl) ?_))))
          refine VOps.says (d := 163) (v := .val (.bool false)) rfl (by simp) ?_
          (repeat (first | ((with_reducible refine VOps.same ?_); (first | refine VOps.vp (by rfl) (by kernel_rfl) (by rfl) (VPure.move rfl rfl) ?_ | refine VOps.vp (by rfl) (by kernel_rfl) (by rfl) (VPure.len_map TI.und' rfl rfl) ?_ | (refine VOps.vp (by rfl) (by kernel_rfl) (by rfl) (VPure.cut_take rfl rfl rfl ?b1) ?_; (case b1 => (first | omega | (simp only [List.length_map, List.length_append, List.length_cons, List.length_nil] at *; omega) | (simp; omega)))) | refine VOps.vp (by rfl) (by kernel_rfl) (by rfl) (VPure.not rfl rfl) ?_ | refine VOps.vp (by rfl) (by kernel_rfl) (by rfl) (VPure.pick_f rfl rfl rfl) ?_ | refine VOps.passv rfl (by kernel_rfl) rfl ?_))))
          refine VOps.pure rfl Try.func22 rfl (by kernel_rfl) rfl rfl rfl rfl rfl rfl rfl (hints) ?_
          (repeat (first | ((with_reducible refine VOps.same ?_); (first | (refine VOps.nil ?_; try dsimp only [VThen, VBlock]) | refine VOps.vp (by rfl) (by kernel_rfl) (by rfl) (VPure.not rfl rfl) ?_ | refine VOps.vp (by rfl) (by kernel_rfl) (by rfl) (VPure.pick_f rfl rfl rfl) ?_))))
          refine VCode.cond_f rfl rfl ?_
          (repeat (first | ((with_reducible refine VOps.same ?_); (first | (refine VOps.nil ?_; try dsimp only [VThen, VBlock]) | refine VOps.vp (by rfl) (by kernel_rfl) (by rfl) (VPure.move rfl rfl) ?_ | refine VOps.vp (by rfl) (by kernel_rfl) (by rfl) (VPure.assign rfl rfl) ?_ | refine VOps.vp (by rfl) (by kernel_rfl) (by rfl) (VPure.addK rfl rfl rfl (by omega)) ?_)) | refine VCode.region rfl ?_ | refine VCode.skip ?_))
          (refine Less.mk (l := [0, 6, 2, 3]) hcx ?ss ?hh rfl (by decide) rfl ⟨_, ?_, i + 1, W, by omega, rfl, few_mono hFW (by omega), hNT, rfl⟩; (case ss => repeat (first | exact SubS.nil | refine SubS.cons rfl rfl ?_ | refine SubS.cons (congrArg (fun z => some (V.val (Value.int IntKind.i64 z))) (by omega)) rfl ?_ | refine SubS.cons (congrArg (fun z => some (V.val (Value.bool z))) (by assumption)) rfl ?_)); (case hh => repeat (first | exact SubH.nil | refine SubH.cons rfl rfl rfl ?_)))
          omega
        | false =>
          obtain rfl : more = pops := hmore
          have hints := ints_v (more.take more.length) more (by simp; omega)
          rw [decide_eq_true (by simp)] at hints
          (repeat (first | ((with_reducible refine VOps.same ?_); (first | refine VOps.vp (by rfl) (by kernel_rfl) (by rfl) (VPure.move rfl rfl) ?_ | refine VOps.vp (by rfl) (by kernel_rfl) (by rfl) (VPure.len_map TI.und' rfl rfl) ?_ | refine VOps.vp (by rfl) (by kernel_rfl) (by rfl) (VPure.nei rfl rfl rfl) ?_ | refine VOps.vp (by rfl) (by kernel_rfl) (by rfl) (VPure.not rfl rfl) ?_ | refine VOps.vp (by rfl) (by kernel_rfl) (by rfl) (VPure.pick_t rfl rfl rfl) ?_ | refine VOps.vp (by rfl) (by kernel_rfl) (by rfl) (VPure.pick_f rfl rfl rfl) ?_ | refine VOps.passv rfl (by kernel_rfl) rfl ?_))))
          refine VOps.says (d := 174) (v := .val (.bool false)) rfl (by simp) ?_
          (repeat (first | ((with_reducible refine VOps.same ?_); (first | refine VOps.vp (by rfl) (by kernel_rfl) (by rfl) (VPure.move rfl rfl) ?_ | refine VOps.vp (by rfl) (by kernel_rfl) (by rfl) (VPure.len_map TI.und' rfl rfl) ?_ | (refine VOps.vp (by rfl) (by kernel_rfl) (by rfl) (VPure.cut_take rfl rfl rfl ?b1) ?_; (case b1 => (first | omega | (simp only [List.length_map, List.length_append, List.length_cons, List.length_nil] at *; omega) | (simp; omega))))))))
          refine VOps.pure rfl Try.func22 rfl (by kernel_rfl) rfl rfl rfl rfl rfl rfl rfl (hints) ?_
          (repeat (first | ((with_reducible refine VOps.same ?_); (first | (refine VOps.nil ?_; try dsimp only [VThen, VBlock]) | refine VOps.vp (by rfl) (by kernel_rfl) (by rfl) (VPure.not rfl rfl) ?_ | refine VOps.vp (by rfl) (by kernel_rfl) (by rfl) (VPure.pick_f rfl rfl rfl) ?_))))
          refine VCode.cond_f rfl rfl ?_
          (repeat (first | ((with_reducible refine VOps.same ?_); (first | (refine VOps.nil ?_; try dsimp only [VThen, VBlock]) | refine VOps.vp (by rfl) (by kernel_rfl) (by rfl) (VPure.move rfl rfl) ?_ | refine VOps.vp (by rfl) (by kernel_rfl) (by rfl) (VPure.assign rfl rfl) ?_ | refine VOps.vp (by rfl) (by kernel_rfl) (by rfl) (VPure.addK rfl rfl rfl (by omega)) ?_)) | refine VCode.region rfl ?_ | refine VCode.skip ?_))
          (refine Less.mk (l := [0, 6, 2, 3]) hcx ?ss ?hh rfl (by decide) rfl ⟨_, ?_, i + 1, W, by omega, rfl, few_mono hFW (by omega), hNT, rfl⟩; (case ss => repeat (first | exact SubS.nil | refine SubS.cons rfl rfl ?_ | refine SubS.cons (congrArg (fun z => some (V.val (Value.int IntKind.i64 z))) (by omega)) rfl ?_ | refine SubS.cons (congrArg (fun z => some (V.val (Value.bool z))) (by assumption)) rfl ?_)); (case hh => repeat (first | exact SubH.nil | refine SubH.cons rfl rfl rfl ?_)))
          omega
  | none =>
    have hge : l.length ≤ i := List.getElem?_eq_none_iff.1 ht
    have hF' : Few S 100000 := few_mono hF (by omega)
    (repeat (first | ((with_reducible refine VOps.same ?_); (first | (refine VOps.nil ?_; try dsimp only [VThen, VBlock]) | refine VOps.vp (by rfl) (by kernel_rfl) (by rfl) (VPure.move rfl rfl) ?_ | refine VOps.vp (by rfl) (by kernel_rfl) (by rfl) (VPure.len_map TI.und' rfl rfl) ?_ | refine VOps.vp (by rfl) (by kernel_rfl) (by rfl) (VPure.lss rfl rfl rfl) ?_)) | refine VCode.seq ?_ | refine VCode.region rfl ?_))
    refine VCode.cond_f rfl (decide_eq_false (by omega)) ?_
    have hkl : (keys S).length = S.length := by simp [keys]
    have h1 : hasB S (S.length : Int) = false := by unfold hasB; simp
    have h2 : hasB S (-1) = false := rfl
    (repeat (first | ((with_reducible refine VOps.same ?_); (first | refine VOps.vp (by rfl) (by kernel_rfl) (by rfl) (VPure.move rfl rfl) ?_)) | refine VCode.seq ?_ | refine VCode.region rfl ?_ | refine VCode.exit ?_))
    refine VOps.pure rfl Try.func15 rfl (by kernel_rfl) rfl rfl rfl rfl rfl rfl rfl (counts_f hF') ?_
    (repeat (first | ((with_reducible refine VOps.same ?_); (first | (refine VOps.nil ?_; try dsimp only [VThen, VBlock]) | refine VOps.vp (by rfl) (by kernel_rfl) (by rfl) (VPure.move rfl rfl) ?_ | refine VOps.vp (by rfl) (by kernel_rfl) (by rfl) (VPure.assign rfl rfl) ?_ | refine VOps.vp (by rfl) (by kernel_rfl) (by rfl) (VPure.extract rfl rfl rfl) ?_ | refine VOps.vp (by rfl) (by kernel_rfl) (by rfl) (VPure.len_arr TI.und' rfl rfl rfl) ?_ | refine VOps.vp (by rfl) (by kernel_rfl) (by rfl) (VPure.eqi rfl rfl rfl) ?_)) | refine VCode.seq ?_ | refine VCode.region rfl ?_))
    refine VOps.says (d := 193) (v := .val (.bool true)) rfl (by rw [List.length_map, hkl]; simp) ?_
    (repeat (first | ((with_reducible refine VOps.same ?_); (first | refine VOps.vp (by rfl) (by kernel_rfl) (by rfl) (VPure.move rfl rfl) ?_))))
    (refine VOps.callL (ch := [(0, .cells 57 [.ref 1, .ref 2]), (1, .nest 61 2 (S.map rowN) none), (2, .map (knownE S))]) [0, 1, 2] rfl Try.func20 rfl (by kernel_rfl) rfl rfl rfl rfl ?hh (by decide) rfl rfl rfl (edgesn_f hF' h1) rfl (by rfl) rfl ?_; (case hh => repeat (first | exact SubH.nil | refine SubH.cons rfl rfl rfl ?_)))
    (repeat (first | ((with_reducible refine VOps.same ?_); (first | refine VOps.vp (by rfl) (by kernel_rfl) (by rfl) (VPure.move rfl rfl) ?_ | refine VOps.vp (by rfl) (by kernel_rfl) (by rfl) (VPure.len_sl TI.und' rfl rfl) ?_ | refine VOps.vp (by rfl) (by kernel_rfl) (by rfl) (VPure.eqi rfl rfl rfl) ?_ | refine VOps.vp (by rfl) (by kernel_rfl) (by rfl) (VPure.pick_t rfl rfl rfl) ?_))))
    (refine VOps.callL (ch := [(0, .cells 57 [.ref 1, .ref 2]), (1, .nest 61 2 (S.map rowN) none), (2, .map (knownE S))]) [0, 4, 2] rfl Try.func21 rfl (by kernel_rfl) rfl rfl rfl rfl ?hh (by decide) rfl rfl rfl (popsn_f hF' h2) rfl (by rfl) rfl ?_; (case hh => repeat (first | exact SubH.nil | refine SubH.cons rfl rfl rfl ?_)))
    (repeat (first | ((with_reducible refine VOps.same ?_); (first | refine VOps.vp (by rfl) (by kernel_rfl) (by rfl) (VPure.move rfl rfl) ?_ | refine VOps.vp (by rfl) (by kernel_rfl) (by rfl) (VPure.len_sl TI.und' rfl rfl) ?_ | refine VOps.vp (by rfl) (by kernel_rfl) (by rfl) (VPure.eqi rfl rfl rfl) ?_ | refine VOps.vp (by rfl) (by kernel_rfl) (by rfl) (VPure.pick_t rfl rfl rfl) ?_))))
    (refine VOps.callL (ch := [(0, .cells 57 [.ref 1, .ref 2]), (1, .nest 61 2 (S.map rowN) none), (2, .map (knownE S))]) [0, 5, 2] rfl Try.func11 rfl (by kernel_rfl) rfl rfl rfl rfl ?hh (by decide) rfl rfl rfl (edgen_f hF' h1 0 0) rfl (by rfl) rfl ?_; (case hh => repeat (first | exact SubH.nil | refine SubH.cons rfl rfl rfl ?_)))
    (repeat (first | ((with_reducible refine VOps.same ?_); (first | refine VOps.vp (by rfl) (by kernel_rfl) (by rfl) (VPure.move rfl rfl) ?_ | refine VOps.vp (by rfl) (by kernel_rfl) (by rfl) (VPure.not rfl rfl) ?_ | refine VOps.vp (by rfl) (by kernel_rfl) (by rfl) (VPure.pick_t rfl rfl rfl) ?_))))
    (refine VOps.callL (ch := [(0, .cells 57 [.ref 1, .ref 2]), (1, .nest 61 2 (S.map rowN) none), (2, .map (knownE S))]) [0, 6, 2] rfl Try.func13 rfl (by kernel_rfl) rfl rfl rfl rfl ?hh (by decide) rfl rfl rfl (popn_f hF' h1 0) rfl (by rfl) rfl ?_; (case hh => repeat (first | exact SubH.nil | refine SubH.cons rfl rfl rfl ?_)))
    (repeat (first | ((with_reducible refine VOps.same ?_); (first | refine VOps.vp (by rfl) (by kernel_rfl) (by rfl) (VPure.move rfl rfl) ?_ | refine VOps.vp (by rfl) (by kernel_rfl) (by rfl) (VPure.not rfl rfl) ?_ | refine VOps.vp (by rfl) (by kernel_rfl) (by rfl) (VPure.pick_t rfl rfl rfl) ?_))))
    refine VOps.pure rfl Try.func8 rfl (by kernel_rfl) rfl rfl rfl rfl rfl rfl rfl (wakes_v) ?_
    (repeat (first | ((with_reducible refine VOps.same ?_); (first | (refine VOps.nil ?_; try dsimp only [VThen, VBlock]) | refine VOps.vp (by rfl) (by kernel_rfl) (by rfl) (VPure.assign rfl rfl) ?_ | refine VOps.vp (by rfl) (by kernel_rfl) (by rfl) (VPure.pick_t rfl rfl rfl) ?_))))
    refine VCode.retD rfl rfl (.tmp rfl .nil) ?_
    rfl
-- LAW StackOrder order_law open_steps
theorem order_law (l : List Stp) (g : (∀ a ∈ l, goodS a) ∧ l.length * 32 ≤ reachBytes) : VCalls Try.prog 6 [.sl 4 (l.map encS)] [] 0 (Gives (.val (.bool true))) := order_v l (by
  have h : reachBytes < 140737488355328 := reachBytes_lt
  have := g.2; omega)
end Go.Proofs.Ytdkgbkmaeeicoaa.V

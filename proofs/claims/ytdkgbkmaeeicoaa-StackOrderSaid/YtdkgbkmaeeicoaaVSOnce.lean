/- stack: StackOnce. -/
import Derived.Test.YtdkgbkmaeeicoaaVSFacts
set_option linter.unusedVariables false
set_option linter.unusedSimpArgs false
-- YtdkgbkmaeeicoaaVC
namespace Go.Proofs.Ytdkgbkmaeeicoaa.V
open Go Go.RowKit
def modV (k n : Int) : Int := if n < 1 then 0 else (wrap64 (k.tmod n + n)).tmod n
theorem mod_v (k n : Int) : VCalls Try.prog 18 [.val (.int .i64 k), .val (.int .i64 n)] [] 0 (Gives (.val (.int .i64 (modV k n)))) := by
  refine VCalls.enterD (n := 14) Try.func18 rfl rfl (by simp) rfl (fun cx hcx => ?_)
  (repeat (first | ((with_reducible refine VOps.same ?_); (first | (refine VOps.nil ?_; try dsimp only [VThen, VBlock]) | refine VOps.vp (by rfl) (by kernel_rfl) (by rfl) (VPure.move rfl rfl) ?_ | refine VOps.vp (by rfl) (by kernel_rfl) (by rfl) (VPure.assign rfl rfl) ?_ | refine VOps.vp (by rfl) (by kernel_rfl) (by rfl) (VPure.lss rfl rfl rfl) ?_)) | refine VCode.seq ?_ | refine VCode.region rfl ?_))
  refine VCode.cond rfl (fun h => ?_) (fun h => ?_)
  · have h := of_decide_eq_true h
    (repeat (first | ((with_reducible refine VOps.same ?_); (first | (refine VOps.nil ?_; try dsimp only [VThen, VBlock]) | refine VOps.vp (by rfl) (by kernel_rfl) (by rfl) (VPure.assign rfl rfl) ?_)) | refine VCode.seq ?_ | refine VCode.region rfl ?_))
    refine VCode.retD rfl rfl (.tmp rfl .nil) ?_
    unfold modV; rw [if_pos h]; rfl
  · have h := of_decide_eq_false h
    (repeat (first | ((with_reducible refine VOps.same ?_); (first | refine VOps.vp (by rfl) (by kernel_rfl) (by rfl) (VPure.move rfl rfl) ?_)) | refine VCode.seq ?_ | refine VCode.region rfl ?_ | refine VCode.skip ?_))
    refine VOps.vp rfl (by kernel_rfl) rfl (VPure.rem0 rfl rfl rfl (by omega)) ?_
    (repeat (first | ((with_reducible refine VOps.same ?_); (first | refine VOps.vp (by rfl) (by kernel_rfl) (by rfl) (VPure.move rfl rfl) ?_ | refine VOps.vp (by rfl) (by kernel_rfl) (by rfl) (VPure.add rfl rfl rfl) ?_))))
    refine VOps.vp rfl (by kernel_rfl) rfl (VPure.rem0 rfl rfl rfl (by omega)) ?_
    (repeat (first | ((with_reducible refine VOps.same ?_); (first | (refine VOps.nil ?_; try dsimp only [VThen, VBlock]) | refine VOps.vp (by rfl) (by kernel_rfl) (by rfl) (VPure.assign rfl rfl) ?_))))
    refine VCode.retD rfl rfl (.tmp rfl .nil) ?_
    unfold modV; rw [if_neg h]; rfl
def numN (b : Bool) : Nat := if b then 1 else 0
theorem num_v (b : Bool) : VCalls Try.prog 19 [.val (.bool b)] [] 0 (Gives (.val (.int .i64 (numN b : Int)))) := by
  refine VCalls.enterD (n := 4) Try.func19 rfl rfl (by simp) rfl (fun cx hcx => ?_)
  (repeat (first | ((with_reducible refine VOps.same ?_); (first | (refine VOps.nil ?_; try dsimp only [VThen, VBlock]) | refine VOps.vp (by rfl) (by kernel_rfl) (by rfl) (VPure.move rfl rfl) ?_ | refine VOps.vp (by rfl) (by kernel_rfl) (by rfl) (VPure.assign rfl rfl) ?_)) | refine VCode.seq ?_ | refine VCode.region rfl ?_))
  refine VCode.cond rfl (fun h => ?_) (fun h => ?_)
  · (repeat (first | ((with_reducible refine VOps.same ?_); (first | (refine VOps.nil ?_; try dsimp only [VThen, VBlock]) | refine VOps.vp (by rfl) (by kernel_rfl) (by rfl) (VPure.assign rfl rfl) ?_)) | refine VCode.seq ?_ | refine VCode.region rfl ?_))
    refine VCode.retD rfl rfl (.tmp rfl .nil) ?_
    rw [h]; rfl
  · (repeat (first | ((with_reducible refine VOps.same ?_); (first | (refine VOps.nil ?_; try dsimp only [VThen, VBlock]) | refine VOps.vp (by rfl) (by kernel_rfl) (by rfl) (VPure.assign rfl rfl) ?_)) | refine VCode.seq ?_ | refine VCode.region rfl ?_ | refine VCode.skip ?_))
    refine VCode.retD rfl rfl (.tmp rfl .nil) ?_
    rw [h]; rfl
/-- Few of all. -/
def Few (S : List Nd) (c : Nat) : Prop := S.length ≤ c ∧ sumE S ≤ c ∧ sumP S ≤ c
theorem node_f {S : List Nd} (h : Few S 100000) (a b : Int) : VCalls Try.prog 9 [.ptr 0 0, .val (.int .i64 a), .val (.int .i64 b)] (stH S) 3 (Leaves (.tup [.val (.int .i64 (nodeAt S a b : Int)), .val (.bool (!thereB S a b))]) (stH' (addNode S a b)) 4) := node_v S a b (by have := h.1; omega)
theorem node_f2 {S : List Nd} {a b : Int} (h : Few (addNode S a b) 100000) : VCalls Try.prog 9 [.ptr 0 0, .val (.int .i64 a), .val (.int .i64 b)] (stH (addNode S a b)) 3 (Leaves (.tup [.val (.int .i64 (nodeAt S a b : Int)), .val (.bool false)]) (stH' (addNode S a b)) 4) := by
  have := node_f h a b
  rw [nodeAt_add, addNode_idem, addNode_there] at this
  exact this
theorem few_all {S : List Nd} {c : Nat} (h : Few S c) : ∀ u ∈ S, u.e.length ≤ c ∧ u.p.length ≤ c := small_of h.2.1 h.2.2
theorem counts_f {S : List Nd} (h : Few S 100000) : VCalls Try.prog 15 [.el [.sl 2 ((S.map rowN).map fun r => r.map N.toD)]] [] 0 (Gives (.tup [.val (.int .i64 (S.length : Int)), .val (.int .i64 (sumE S : Int)), .val (.int .i64 (sumP S : Int))])) :=
  countsr_v S (by have := h.1; omega) (by have := h.2.1; omega) (by have := h.2.2; omega) (fun u hu => by have := few_all h u hu; omega)
theorem edge_f {S : List Nd} (h : Few S 100000) (n st ab : Int) : VCalls Try.prog 11 [.ptr 0 0, .val (.int .i64 n), .val (.int .i64 st), .val (.int .i64 ab)] (stH S) 3 (Leaves (.val (.bool (edgeB S n st ab))) (stH' (addEdge S n st ab)) 4) := edge_v S n st ab (fun u hu => by have := few_all h u hu; omega)
theorem edge_f2 {S : List Nd} {n st ab : Int} (h : Few (addEdge S n st ab) 100000) : VCalls Try.prog 11 [.ptr 0 0, .val (.int .i64 n), .val (.int .i64 st), .val (.int .i64 ab)] (stH (addEdge S n st ab)) 3 (Leaves (.val (.bool false)) (stH' (addEdge S n st ab)) 4) := by
  have := edge_f h n st ab
  rw [(edge_facts S n st ab).2.2.2.1, (edge_facts S n st ab).2.2.2.2] at this
  exact this
theorem pop_f {S : List Nd} (h : Few S 100000) (n q : Int) : VCalls Try.prog 13 [.ptr 0 0, .val (.int .i64 n), .val (.int .i64 q)] (stH S) 3 (Leaves (.val (.bool (popB S n q))) (stH' (addPop S n q)) 4) := pop_v S n q (fun u hu => by have := few_all h u hu; omega)
theorem pop_f2 {S : List Nd} {n q : Int} (h : Few (addPop S n q) 100000) : VCalls Try.prog 13 [.ptr 0 0, .val (.int .i64 n), .val (.int .i64 q)] (stH (addPop S n q)) 3 (Leaves (.val (.bool false)) (stH' (addPop S n q)) 4) := by
  have := pop_f h n q
  rw [(pop_facts S n q).2.2.2.1, (pop_facts S n q).2.2.2.2] at this
  exact this
theorem few_node {S : List Nd} {c : Nat} (h : Few S c) (a b : Int) : Few (addNode S a b) (c + 1) := by
  have h1 := addNode_len S a b
  have h2 := addNode_sums S a b
  obtain ⟨q1, q2, q3⟩ := h
  exact ⟨by omega, by omega, by omega⟩
theorem if_le (b : Bool) : (if b then 1 else 0) ≤ 1 := by cases b <;> decide
theorem few_edge {S : List Nd} {c : Nat} (h : Few S c) (n st ab : Int) : Few (addEdge S n st ab) (c + 1) := by
  obtain ⟨f1, f2, f3, _⟩ := edge_facts S n st ab
  obtain ⟨q1, q2, q3⟩ := h
  have := if_le (edgeB S n st ab)
  exact ⟨by omega, by omega, by omega⟩
theorem few_pop {S : List Nd} {c : Nat} (h : Few S c) (n q : Int) : Few (addPop S n q) (c + 1) := by
  obtain ⟨f1, f2, f3, _⟩ := pop_facts S n q
  obtain ⟨q1, q2, q3⟩ := h
  have := if_le (popB S n q)
  exact ⟨by omega, by omega, by omega⟩
theorem few_mono {S : List Nd} {c d : Nat} (h : Few S c) (hd : c ≤ d) : Few S d := ⟨Nat.le_trans h.1 hd, Nat.le_trans h.2.1 hd, Nat.le_trans h.2.2 hd⟩
theorem node_two {S : List Nd} {c : Nat} (h : Few S c) (hc : c + 1 ≤ 100000) (a b : Int) : ∃ (A : List Nd) (k : Nat), VCalls Try.prog 9 [.ptr 0 0, .val (.int .i64 a), .val (.int .i64 b)] (stH S) 3 (Leaves (.tup [.val (.int .i64 (k : Int)), .val (.bool (!thereB S a b))]) (stH' A) 4) ∧
    VCalls Try.prog 9 [.ptr 0 0, .val (.int .i64 a), .val (.int .i64 b)] (stH A) 3 (Leaves (.tup [.val (.int .i64 (k : Int)), .val (.bool false)]) (stH' A) 4) ∧ k < A.length ∧ Few A (c + 1) ∧ thereB A a b = true ∧ ∀ s p, thereB S s p = true → thereB A s p = true :=
  ⟨_, _, node_f (few_mono h (by omega)) a b, node_f2 (few_mono (few_node h a b) hc), nodeAt_lt S a b, few_node h a b, addNode_there S a b, fun s p => addNode_mono⟩
theorem there_of {a b : List Nd} (h : keys a = keys b) (s p : Int) : thereB a s p = thereB b s p := by
  rw [Bool.eq_iff_iff, there_iff, there_iff, h]
theorem edge_two {S : List Nd} {c : Nat} (h : Few S c) (hc : c + 1 ≤ 100000) (n st ab : Int) : ∃ (B : List Nd) (one : Bool), VCalls Try.prog 11 [.ptr 0 0, .val (.int .i64 n), .val (.int .i64 st), .val (.int .i64 ab)] (stH S) 3 (Leaves (.val (.bool one)) (stH' B) 4) ∧
    VCalls Try.prog 11 [.ptr 0 0, .val (.int .i64 n), .val (.int .i64 st), .val (.int .i64 ab)] (stH B) 3 (Leaves (.val (.bool false)) (stH' B) 4) ∧ B.length = S.length ∧ sumE B = sumE S + numN one ∧ sumP B = sumP S ∧ Few B (c + 1) ∧ ∀ s p, thereB B s p = thereB S s p := by
  obtain ⟨f1, f2, f3, _⟩ := edge_facts S n st ab
  exact ⟨_, _, edge_f (few_mono h (by omega)) n st ab, edge_f2 (few_mono (few_edge h n st ab) hc), f1, f2, f3, few_edge h n st ab, there_of (addEdge_keys S n st ab)⟩
theorem pop_two {S : List Nd} {c : Nat} (h : Few S c) (hc : c + 1 ≤ 100000) (n q : Int) : ∃ (B : List Nd) (one : Bool), VCalls Try.prog 13 [.ptr 0 0, .val (.int .i64 n), .val (.int .i64 q)] (stH S) 3 (Leaves (.val (.bool one)) (stH' B) 4) ∧
    VCalls Try.prog 13 [.ptr 0 0, .val (.int .i64 n), .val (.int .i64 q)] (stH B) 3 (Leaves (.val (.bool false)) (stH' B) 4) ∧ B.length = S.length ∧ sumP B = sumP S + numN one ∧ sumE B = sumE S ∧ Few B (c + 1) ∧ ∀ s p, thereB B s p = thereB S s p := by
  obtain ⟨f1, f2, f3, _⟩ := pop_facts S n q
  exact ⟨_, _, pop_f (few_mono h (by omega)) n q, pop_f2 (few_mono (few_pop h n q) hc), f1, f2, f3, few_pop h n q, there_of (addPop_keys S n q)⟩
theorem numN_le (b : Bool) : numN b ≤ 1 := by cases b <;> decide
set_option maxHeartbeats 8000000 in
theorem once_v (l : List Stp) (hl : l.length ≤ 140737488355328) : VCalls Try.prog 4 [.sl 4 (l.map encS)] [] 0 (Gives (.val (.bool true))) := by
  refine VCalls.enterD (n := 154) Try.func4 rfl rfl (by simp) rfl (fun cx hcx => ?_)
  (repeat (first | ((with_reducible refine VOps.same ?_); (first | (refine VOps.nil ?_; try dsimp only [VThen, VBlock]) | refine VOps.vp (by rfl) (by kernel_rfl) (by rfl) (VPure.assign rfl rfl) ?_)) | refine VCode.seq ?_ | refine VCode.region rfl ?_))
  (refine VOps.callL (ch := []) [] rfl Try.func7 rfl (by kernel_rfl) rfl rfl rfl rfl ?hh (by decide) rfl rfl rfl (new_v) rfl (by rfl) rfl ?_; (case hh => repeat (first | exact SubH.nil | refine SubH.cons rfl rfl rfl ?_)))
  (repeat (first | ((with_reducible refine VOps.same ?_); (first | (refine VOps.nil ?_; try dsimp only [VThen, VBlock]) | refine VOps.vp (by rfl) (by kernel_rfl) (by rfl) (VPure.move rfl rfl) ?_ | refine VOps.vp (by rfl) (by kernel_rfl) (by rfl) (VPure.assign rfl rfl) ?_ | refine VOps.vp (by rfl) (by kernel_rfl) (by rfl) (VPure.len_map TI.und' rfl rfl) ?_ | refine VOps.vp (by rfl) (by kernel_rfl) (by rfl) (VPure.gtr rfl rfl rfl) ?_ | refine VOps.vp (by rfl) (by kernel_rfl) (by rfl) (VPure.pick_f rfl rfl rfl) ?_ | refine VOps.vp (by rfl) (by kernel_rfl) (by rfl) (VPure.nil_ptr rfl TI.und' rfl rfl rfl) ?_)) | refine VCode.seq ?_ | refine VCode.region rfl ?_))
  refine VCode.cond rfl (fun hlen => ?_) (fun hlen => ?_)
  · (repeat (first | ((with_reducible refine VOps.same ?_); (first | refine VOps.vp (by rfl) (by kernel_rfl) (by rfl) (VPure.move rfl rfl) ?_ | refine VOps.vp (by rfl) (by kernel_rfl) (by rfl) (VPure.nnil_ptr rfl TI.und' rfl rfl rfl) ?_)) | refine VCode.seq ?_ | refine VCode.region rfl ?_))
    refine VOps.pure rfl Try.func8 rfl (by kernel_rfl) rfl rfl rfl rfl rfl rfl rfl (wakes_v) ?_
    (repeat (first | ((with_reducible refine VOps.same ?_); (first | (refine VOps.nil ?_; try dsimp only [VThen, VBlock]) | refine VOps.vp (by rfl) (by kernel_rfl) (by rfl) (VPure.assign rfl rfl) ?_ | refine VOps.vp (by rfl) (by kernel_rfl) (by rfl) (VPure.pick_t rfl rfl rfl) ?_))))
    refine VCode.retD rfl rfl (.tmp rfl .nil) ?_
    rfl
  have hlen : l.length ≤ 80 := by have := of_decide_eq_false hlen; omega
  (repeat (first | ((with_reducible refine VOps.same ?_); (first | (refine VOps.nil ?_; try dsimp only [VThen, VBlock]) | refine VOps.vp (by rfl) (by kernel_rfl) (by rfl) (VPure.assign rfl rfl) ?_)) | refine VCode.seq ?_ | refine VCode.region rfl ?_ | refine VCode.block ?_ | refine VCode.skip ?_))
  refine VCode.loop (fun m st => ∃ (r : Nat) (S : List Nd), r ≤ 2 ∧ m = 2 - r ∧ Few S (r * 1000) ∧ (1 ≤ r → ∀ x ∈ l, thereB S x.2.1 x.2.2.1 = true) ∧ st = ⟨[(0, .sl 4 (l.map encS)), (3, .ptr 0 0), (4, .val (.int .i64 (r : Int)))], [(0, .cells 57 [.ref 1, .ref 2]), (1, .nest 61 2 (S.map rowN) none), (2, .map (knownE S))], 3⟩) 2 ?_ ?_
  · (refine Less.mk (l := [0, 1, 2]) hcx ?ss ?hh rfl (by decide) rfl ⟨0, [], by omega, by omega, ⟨by simp, by simp [sumE, lensE], by simp [sumP, lensP]⟩, by omega, rfl⟩; (case ss => repeat (first | exact SubS.nil | refine SubS.cons rfl rfl ?_ | refine SubS.cons (congrArg (fun z => some (V.val (Value.int IntKind.i64 z))) (by omega)) rfl ?_ | refine SubS.cons (congrArg (fun z => some (V.val (Value.bool z))) (by assumption)) rfl ?_)); (case hh => repeat (first | exact SubH.nil | refine SubH.cons rfl rfl rfl ?_)))
  rintro m st ⟨r, S, hr, rfl, hF, hT, rfl⟩
  (repeat (first | ((with_reducible refine VOps.same ?_); (first | (refine VOps.nil ?_; try dsimp only [VThen, VBlock]) | refine VOps.vp (by rfl) (by kernel_rfl) (by rfl) (VPure.move rfl rfl) ?_ | refine VOps.vp (by rfl) (by kernel_rfl) (by rfl) (VPure.lss rfl rfl rfl) ?_)) | refine VCode.seq ?_ | refine VCode.region rfl ?_))
  by_cases hr2 : r < 2
  · refine VCode.cond_t rfl (decide_eq_true (by omega)) ?_
    (repeat (first | ((with_reducible refine VOps.same ?_); (first | (refine VOps.nil ?_; try dsimp only [VThen, VBlock]) | refine VOps.vp (by rfl) (by kernel_rfl) (by rfl) (VPure.assign rfl rfl) ?_)) | refine VCode.seq ?_ | refine VCode.region rfl ?_ | refine VCode.block ?_ | refine VCode.skip ?_))
    refine VCode.loop (fun m st => ∃ (i : Nat) (S : List Nd), i ≤ l.length ∧ m = l.length - i ∧ Few S (r * 1000 + i * 10) ∧ (1 ≤ r → ∀ x ∈ l, thereB S x.2.1 x.2.2.1 = true) ∧ (∀ x ∈ l.take i, thereB S x.2.1 x.2.2.1 = true) ∧ st = ⟨[(5, .val (.int .i64 (i : Int))), (0, .sl 4 (l.map encS)), (3, .ptr 0 0), (4, .val (.int .i64 (r : Int)))], [(0, .cells 57 [.ref 1, .ref 2]), (1, .nest 61 2 (S.map rowN) none), (2, .map (knownE S))], 3⟩) l.length ?_ ?_
    · (refine Less.mk (l := [0, 1, 2]) hcx ?ss ?hh rfl (by decide) rfl ⟨0, S, by omega, by omega, few_mono hF (by omega), hT, by simp, rfl⟩; (case ss => repeat (first | exact SubS.nil | refine SubS.cons rfl rfl ?_ | refine SubS.cons (congrArg (fun z => some (V.val (Value.int IntKind.i64 z))) (by omega)) rfl ?_ | refine SubS.cons (congrArg (fun z => some (V.val (Value.bool z))) (by assumption)) rfl ?_)); (case hh => repeat (first | exact SubH.nil | refine SubH.cons rfl rfl rfl ?_)))
    clear hF hT S
    rintro m st ⟨i, S, hi, rfl, hF, hT, hI, rfl⟩
    cases ht : l[i]? with
    | some x =>
      have hlt : i < l.length := (List.getElem?_eq_some_iff.1 ht).1
      have hx := List.mem_of_getElem? ht
      obtain ⟨A, a, n1, n2, hat, hFA, hAx, tA⟩ := node_two hF (by omega) x.2.1 x.2.2.1
      obtain ⟨B, one, e1, e2, cB, eB, pB, hFB, tB⟩ := edge_two hFA (by omega) (a : Int) x.2.2.2 (modV x.2.2.1 (A.length : Int))
      obtain ⟨C, pop, p1, p2, cC, pC, eC, hFC, tC⟩ := pop_two hFB (by omega) (a : Int) x.2.2.2
      have hFA' : Few A 100000 := few_mono hFA (by omega)
      have hFC' : Few C 100000 := few_mono hFC (by omega)
      have o1 := numN_le one
      have o2 := numN_le pop
      have s1 : sumE A ≤ 100000 ∧ sumP A ≤ 100000 := hFA'.2
      (repeat (first | ((with_reducible refine VOps.same ?_); (first | (refine VOps.nil ?_; try dsimp only [VThen, VBlock]) | refine VOps.vp (by rfl) (by kernel_rfl) (by rfl) (VPure.move rfl rfl) ?_ | refine VOps.vp (by rfl) (by kernel_rfl) (by rfl) (VPure.len_map TI.und' rfl rfl) ?_ | refine VOps.vp (by rfl) (by kernel_rfl) (by rfl) (VPure.lss rfl rfl rfl) ?_)) | refine VCode.seq ?_ | refine VCode.region rfl ?_))
      refine VCode.cond_t rfl (decide_eq_true (by omega)) ?_
      (repeat (first | ((with_reducible refine VOps.same ?_); (first | (refine VOps.nil ?_; try dsimp only [VThen, VBlock]) | refine VOps.vp (by rfl) (by kernel_rfl) (by rfl) (VPure.move rfl rfl) ?_ | refine VOps.vp (by rfl) (by kernel_rfl) (by rfl) (VPure.idx_map rfl rfl rfl (by assumption)) ?_ | refine VOps.vp (by rfl) (by kernel_rfl) (by rfl) (VPure.field_ptr rfl rfl rfl) ?_ | refine VOps.vv (by rfl) (by kernel_rfl) (by rfl) (VLoad.box1 rfl rfl rfl rfl (by rfl) (by decide)) ?_ | refine VOps.vv (by rfl) (by kernel_rfl) (by rfl) (VLoad.elA rfl rfl (by rfl) (Nat.le_of_ble_eq_true (by rfl))) ?_ | refine VOps.alloc rfl rfl (by kernel_rfl) rfl (by kernel_rfl) rfl ?_ | refine VOps.store rfl rfl (by kernel_rfl) rfl rfl rfl rfl rfl rfl (Nat.le_of_ble_eq_true (by rfl)) rfl ?_)) | refine VCode.seq ?_ | refine VCode.region rfl ?_ | refine VCode.block ?_ | refine VCode.skip ?_))
      (refine VOps.callL (ch := [(0, .cells 57 [.ref 1, .ref 2]), (1, .nest 61 2 (S.map rowN) none), (2, .map (knownE S))]) [0, 1, 2] rfl Try.func9 rfl (by kernel_rfl) rfl rfl rfl rfl ?hh (by decide) rfl rfl rfl (n1) rfl (by rfl) rfl ?_; (case hh => repeat (first | exact SubH.nil | refine SubH.cons rfl rfl rfl ?_)))
      (repeat (first | ((with_reducible refine VOps.same ?_); (first | (refine VOps.nil ?_; try dsimp only [VThen, VBlock]) | refine VOps.vp (by rfl) (by kernel_rfl) (by rfl) (VPure.move rfl rfl) ?_ | refine VOps.vp (by rfl) (by kernel_rfl) (by rfl) (VPure.assign rfl rfl) ?_ | refine VOps.vp (by rfl) (by kernel_rfl) (by rfl) (VPure.extract rfl rfl rfl) ?_ | refine VOps.vp (by rfl) (by kernel_rfl) (by rfl) (VPure.field_ptr rfl rfl rfl) ?_ | refine VOps.vv (by rfl) (by kernel_rfl) (by rfl) (VLoad.box1 rfl rfl rfl rfl (by rfl) (by decide)) ?_)) | refine VCode.seq ?_ | refine VCode.region rfl ?_))
      (refine VOps.callL (ch := [(0, .cells 57 [.ref 1, .ref 2]), (1, .nest 61 2 (A.map rowN) none), (2, .map (knownE A))]) [0, 4, 2] rfl Try.func9 rfl (by kernel_rfl) rfl rfl rfl rfl ?hh (by decide) rfl rfl rfl (n2) rfl (by rfl) rfl ?_; (case hh => repeat (first | exact SubH.nil | refine SubH.cons rfl rfl rfl ?_)))
      (repeat (first | ((with_reducible refine VOps.same ?_); (first | (refine VOps.nil ?_; try dsimp only [VThen, VBlock]) | refine VOps.vp (by rfl) (by kernel_rfl) (by rfl) (VPure.move rfl rfl) ?_ | refine VOps.vp (by rfl) (by kernel_rfl) (by rfl) (VPure.assign rfl rfl) ?_ | refine VOps.vp (by rfl) (by kernel_rfl) (by rfl) (VPure.extract rfl rfl rfl) ?_)) | refine VCode.seq ?_ | refine VCode.region rfl ?_))
      refine VOps.pure rfl Try.func15 rfl (by kernel_rfl) rfl rfl rfl rfl rfl rfl rfl (counts_f hFA') ?_
      (repeat (first | ((with_reducible refine VOps.same ?_); (first | (refine VOps.nil ?_; try dsimp only [VThen, VBlock]) | refine VOps.vp (by rfl) (by kernel_rfl) (by rfl) (VPure.move rfl rfl) ?_ | refine VOps.vp (by rfl) (by kernel_rfl) (by rfl) (VPure.assign rfl rfl) ?_ | refine VOps.vp (by rfl) (by kernel_rfl) (by rfl) (VPure.extract rfl rfl rfl) ?_ | refine VOps.vp (by rfl) (by kernel_rfl) (by rfl) (VPure.nei rfl rfl rfl) ?_)) | refine VCode.seq ?_ | refine VCode.region rfl ?_))
      refine VOps.says (d := 75) (v := .val (.bool false)) rfl (by simp) ?_
      (repeat (first | ((with_reducible refine VOps.same ?_); (first | refine VOps.vp (by rfl) (by kernel_rfl) (by rfl) (VPure.move rfl rfl) ?_ | refine VOps.vp (by rfl) (by kernel_rfl) (by rfl) (VPure.eqi rfl rfl rfl) ?_ | refine VOps.vp (by rfl) (by kernel_rfl) (by rfl) (VPure.pick_f rfl rfl rfl) ?_))))
      refine VOps.bool (d := 81) rfl (fun h => ?_) (fun h => ?_)
      · have h1 : thereB S x.2.1 x.2.2.1 = true := hT (by have := of_decide_eq_true h; omega) x hx
        (repeat (first | ((with_reducible refine VOps.same ?_); (first | refine VOps.vp (by rfl) (by kernel_rfl) (by rfl) (VPure.move rfl rfl) ?_ | refine VOps.vp (by rfl) (by kernel_rfl) (by rfl) (VPure.pick_t rfl rfl rfl) ?_ | refine VOps.vp (by rfl) (by kernel_rfl) (by rfl) (VPure.pick_f rfl rfl rfl) ?_))))
        refine VOps.says (d := 85) (v := .val (.bool false)) rfl (by rw [h1]; rfl) ?_
        (repeat (first | ((with_reducible refine VOps.same ?_); (first | (refine VOps.nil ?_; try dsimp only [VThen, VBlock]) | refine VOps.vp (by rfl) (by kernel_rfl) (by rfl) (VPure.move rfl rfl) ?_ | refine VOps.vp (by rfl) (by kernel_rfl) (by rfl) (VPure.lss rfl rfl rfl) ?_ | refine VOps.vp (by rfl) (by kernel_rfl) (by rfl) (VPure.geq rfl rfl rfl) ?_ | refine VOps.vp (by rfl) (by kernel_rfl) (by rfl) (VPure.pick_f rfl rfl rfl) ?_))))
        refine VCode.cond_f rfl (decide_eq_false (by omega)) ?_
        (repeat (first | refine VCode.seq ?_ | refine VCode.skip ?_))
        refine VCode.draw [0, 5, 2] rfl ?_
        (repeat (first | ((with_reducible refine VOps.same ?_); (first | refine VOps.vp (by rfl) (by kernel_rfl) (by rfl) (VPure.move rfl rfl) ?_ | refine VOps.vp (by rfl) (by kernel_rfl) (by rfl) (VPure.field_ptr rfl rfl rfl) ?_ | refine VOps.vv (by rfl) (by kernel_rfl) (by rfl) (VLoad.box1 rfl rfl rfl rfl (by rfl) (by decide)) ?_))))
        refine VOps.pure rfl Try.func18 rfl (by kernel_rfl) rfl rfl rfl rfl rfl rfl rfl (mod_v x.2.2.1 (A.length : Int)) ?_
        skip
        (refine VOps.callL (ch := [(0, .cells 57 [.ref 1, .ref 2]), (1, .nest 61 2 (A.map rowN) none), (2, .map (knownE A))]) [0, 5, 2] rfl Try.func11 rfl (by kernel_rfl) rfl rfl rfl rfl ?hh (by decide) rfl rfl rfl (e1) rfl (by rfl) rfl ?_; (case hh => repeat (first | exact SubH.nil | refine SubH.cons rfl rfl rfl ?_)))
        (repeat (first | ((with_reducible refine VOps.same ?_); (first | (refine VOps.nil ?_; try dsimp only [VThen, VBlock]) | refine VOps.vp (by rfl) (by kernel_rfl) (by rfl) (VPure.assign rfl rfl) ?_)) | refine VCode.seq ?_))
        refine VCode.draw [0, 6, 2] rfl ?_
        (repeat (first | ((with_reducible refine VOps.same ?_); (first | refine VOps.vp (by rfl) (by kernel_rfl) (by rfl) (VPure.move rfl rfl) ?_ | refine VOps.vp (by rfl) (by kernel_rfl) (by rfl) (VPure.field_ptr rfl rfl rfl) ?_ | refine VOps.vv (by rfl) (by kernel_rfl) (by rfl) (VLoad.box1 rfl rfl rfl rfl (by rfl) (by decide)) ?_))))
        refine VOps.pure rfl Try.func18 rfl (by kernel_rfl) rfl rfl rfl rfl rfl rfl rfl (mod_v x.2.2.1 (A.length : Int)) ?_
        skip
        (refine VOps.callL (ch := [(0, .cells 57 [.ref 1, .ref 2]), (1, .nest 61 2 (B.map rowN) none), (2, .map (knownE B))]) [0, 6, 2] rfl Try.func11 rfl (by kernel_rfl) rfl rfl rfl rfl ?hh (by decide) rfl rfl rfl (e2) rfl (by rfl) rfl ?_; (case hh => repeat (first | exact SubH.nil | refine SubH.cons rfl rfl rfl ?_)))
        (repeat (first | ((with_reducible refine VOps.same ?_); (first | (refine VOps.nil ?_; try dsimp only [VThen, VBlock]) | refine VOps.vp (by rfl) (by kernel_rfl) (by rfl) (VPure.move rfl rfl) ?_ | refine VOps.vp (by rfl) (by kernel_rfl) (by rfl) (VPure.assign rfl rfl) ?_ | refine VOps.vp (by rfl) (by kernel_rfl) (by rfl) (VPure.field_ptr rfl rfl rfl) ?_ | refine VOps.vv (by rfl) (by kernel_rfl) (by rfl) (VLoad.box1 rfl rfl rfl rfl (by rfl) (by decide)) ?_)) | refine VCode.seq ?_ | refine VCode.region rfl ?_))
        (refine VOps.callL (ch := [(0, .cells 57 [.ref 1, .ref 2]), (1, .nest 61 2 (B.map rowN) none), (2, .map (knownE B))]) [0, 7, 2] rfl Try.func13 rfl (by kernel_rfl) rfl rfl rfl rfl ?hh (by decide) rfl rfl rfl (p1) rfl (by rfl) rfl ?_; (case hh => repeat (first | exact SubH.nil | refine SubH.cons rfl rfl rfl ?_)))
        (repeat (first | ((with_reducible refine VOps.same ?_); (first | (refine VOps.nil ?_; try dsimp only [VThen, VBlock]) | refine VOps.vp (by rfl) (by kernel_rfl) (by rfl) (VPure.move rfl rfl) ?_ | refine VOps.vp (by rfl) (by kernel_rfl) (by rfl) (VPure.assign rfl rfl) ?_ | refine VOps.vp (by rfl) (by kernel_rfl) (by rfl) (VPure.field_ptr rfl rfl rfl) ?_ | refine VOps.vv (by rfl) (by kernel_rfl) (by rfl) (VLoad.box1 rfl rfl rfl rfl (by rfl) (by decide)) ?_)) | refine VCode.seq ?_ | refine VCode.region rfl ?_))
        (refine VOps.callL (ch := [(0, .cells 57 [.ref 1, .ref 2]), (1, .nest 61 2 (C.map rowN) none), (2, .map (knownE C))]) [0, 8, 2] rfl Try.func13 rfl (by kernel_rfl) rfl rfl rfl rfl ?hh (by decide) rfl rfl rfl (p2) rfl (by rfl) rfl ?_; (case hh => repeat (first | exact SubH.nil | refine SubH.cons rfl rfl rfl ?_)))
        (repeat (first | ((with_reducible refine VOps.same ?_); (first | (refine VOps.nil ?_; try dsimp only [VThen, VBlock]) | refine VOps.vp (by rfl) (by kernel_rfl) (by rfl) (VPure.move rfl rfl) ?_ | refine VOps.vp (by rfl) (by kernel_rfl) (by rfl) (VPure.assign rfl rfl) ?_)) | refine VCode.seq ?_ | refine VCode.region rfl ?_))
        refine VOps.pure rfl Try.func15 rfl (by kernel_rfl) rfl rfl rfl rfl rfl rfl rfl (counts_f hFC') ?_
        (repeat (first | ((with_reducible refine VOps.same ?_); (first | (refine VOps.nil ?_; try dsimp only [VThen, VBlock]) | refine VOps.vp (by rfl) (by kernel_rfl) (by rfl) (VPure.move rfl rfl) ?_ | refine VOps.vp (by rfl) (by kernel_rfl) (by rfl) (VPure.assign rfl rfl) ?_ | refine VOps.vp (by rfl) (by kernel_rfl) (by rfl) (VPure.extract rfl rfl rfl) ?_ | refine VOps.vp (by rfl) (by kernel_rfl) (by rfl) (VPure.nei rfl rfl rfl) ?_ | refine VOps.vp (by rfl) (by kernel_rfl) (by rfl) (VPure.pick_f rfl rfl rfl) ?_)) | refine VCode.seq ?_ | refine VCode.region rfl ?_))
        refine VOps.says (d := 137) (v := .val (.bool false)) rfl (by rw [cC, cB]; simp) ?_
        (repeat (first | ((with_reducible refine VOps.same ?_); (first | refine VOps.vp (by rfl) (by kernel_rfl) (by rfl) (VPure.move rfl rfl) ?_))))
        refine VOps.pure rfl Try.func19 rfl (by kernel_rfl) rfl rfl rfl rfl rfl rfl rfl (num_v one) ?_
        (repeat (first | ((with_reducible refine VOps.same ?_); (first | refine VOps.vp (by rfl) (by kernel_rfl) (by rfl) (VPure.move rfl rfl) ?_ | refine VOps.vp (by rfl) (by kernel_rfl) (by rfl) (VPure.addK rfl rfl rfl (by omega)) ?_ | refine VOps.vp (by rfl) (by kernel_rfl) (by rfl) (VPure.nei rfl rfl rfl) ?_ | refine VOps.vp (by rfl) (by kernel_rfl) (by rfl) (VPure.pick_f rfl rfl rfl) ?_))))
        refine VOps.says (d := 145) (v := .val (.bool false)) rfl (by rw [eC, eB]; simp) ?_
        (repeat (first | ((with_reducible refine VOps.same ?_); (first | refine VOps.vp (by rfl) (by kernel_rfl) (by rfl) (VPure.move rfl rfl) ?_))))
        refine VOps.pure rfl Try.func19 rfl (by kernel_rfl) rfl rfl rfl rfl rfl rfl rfl (num_v pop) ?_
        (repeat (first | ((with_reducible refine VOps.same ?_); (first | (refine VOps.nil ?_; try dsimp only [VThen, VBlock]) | refine VOps.vp (by rfl) (by kernel_rfl) (by rfl) (VPure.addK rfl rfl rfl (by omega)) ?_ | refine VOps.vp (by rfl) (by kernel_rfl) (by rfl) (VPure.nei rfl rfl rfl) ?_ | refine VOps.vp (by rfl) (by kernel_rfl) (by rfl) (VPure.pick_f rfl rfl rfl) ?_))))
        refine VCode.cond_f rfl (by rw [pC, pB]; simp) ?_
        (repeat (first | ((with_reducible refine VOps.same ?_); (first | (refine VOps.nil ?_; try dsimp only [VThen, VBlock]) | refine VOps.vp (by rfl) (by kernel_rfl) (by rfl) (VPure.move rfl rfl) ?_ | refine VOps.vp (by rfl) (by kernel_rfl) (by rfl) (VPure.assign rfl rfl) ?_ | refine VOps.vp (by rfl) (by kernel_rfl) (by rfl) (VPure.addK rfl rfl rfl (by omega)) ?_)) | refine VCode.region rfl ?_ | refine VCode.skip ?_))
        (refine Less.mk (l := [0, 9, 2]) hcx ?ss ?hh rfl (by decide) rfl ⟨_, ?_, i + 1, C, by omega, rfl, few_mono hFC (by omega), fun h y hy => (by rw [tC, tB]; exact tA _ _ (hT h y hy)), ?_, rfl⟩; (case ss => repeat (first | exact SubS.nil | refine SubS.cons rfl rfl ?_ | refine SubS.cons (congrArg (fun z => some (V.val (Value.int IntKind.i64 z))) (by omega)) rfl ?_ | refine SubS.cons (congrArg (fun z => some (V.val (Value.bool z))) (by assumption)) rfl ?_)); (case hh => repeat (first | exact SubH.nil | refine SubH.cons rfl rfl rfl ?_)))
        · omega
        · intro y hy
          rw [tC, tB]
          rw [List.take_add_one, ht] at hy
          rcases List.mem_append.1 hy with h | h
          · exact tA _ _ (hI y h)
          · obtain rfl := List.mem_singleton.1 h
            exact hAx
      · skip
        (repeat (first | ((with_reducible refine VOps.same ?_); (first | (refine VOps.nil ?_; try dsimp only [VThen, VBlock]) | refine VOps.vp (by rfl) (by kernel_rfl) (by rfl) (VPure.move rfl rfl) ?_ | refine VOps.vp (by rfl) (by kernel_rfl) (by rfl) (VPure.lss rfl rfl rfl) ?_ | refine VOps.vp (by rfl) (by kernel_rfl) (by rfl) (VPure.geq rfl rfl rfl) ?_ | refine VOps.vp (by rfl) (by kernel_rfl) (by rfl) (VPure.pick_f rfl rfl rfl) ?_ | refine VOps.passv rfl (by kernel_rfl) rfl ?_))))
        refine VCode.cond_f rfl (decide_eq_false (by omega)) ?_
        (repeat (first | refine VCode.seq ?_ | refine VCode.skip ?_))
        refine VCode.draw [0, 5, 2] rfl ?_
        (repeat (first | ((with_reducible refine VOps.same ?_); (first | refine VOps.vp (by rfl) (by kernel_rfl) (by rfl) (VPure.move rfl rfl) ?_ | refine VOps.vp (by rfl) (by kernel_rfl) (by rfl) (VPure.field_ptr rfl rfl rfl) ?_ | refine VOps.vv (by rfl) (by kernel_rfl) (by rfl) (VLoad.box1 rfl rfl rfl rfl (by rfl) (by decide)) ?_))))
        refine VOps.pure rfl Try.func18 rfl (by kernel_rfl) rfl rfl rfl rfl rfl rfl rfl (mod_v x.2.2.1 (A.length : Int)) ?_
        skip
        (refine VOps.callL (ch := [(0, .cells 57 [.ref 1, .ref 2]), (1, .nest 61 2 (A.map rowN) none), (2, .map (knownE A))]) [0, 5, 2] rfl Try.func11 rfl (by kernel_rfl) rfl rfl rfl rfl ?hh (by decide) rfl rfl rfl (e1) rfl (by rfl) rfl ?_; (case hh => repeat (first | exact SubH.nil | refine SubH.cons rfl rfl rfl ?_)))
        (repeat (first | ((with_reducible refine VOps.same ?_); (first | (refine VOps.nil ?_; try dsimp only [VThen, VBlock]) | refine VOps.vp (by rfl) (by kernel_rfl) (by rfl) (VPure.assign rfl rfl) ?_)) | refine VCode.seq ?_))
        refine VCode.draw [0, 6, 2] rfl ?_
        (repeat (first | ((with_reducible refine VOps.same ?_); (first | refine VOps.vp (by rfl) (by kernel_rfl) (by rfl) (VPure.move rfl rfl) ?_ | refine VOps.vp (by rfl) (by kernel_rfl) (by rfl) (VPure.field_ptr rfl rfl rfl) ?_ | refine VOps.vv (by rfl) (by kernel_rfl) (by rfl) (VLoad.box1 rfl rfl rfl rfl (by rfl) (by decide)) ?_))))
        refine VOps.pure rfl Try.func18 rfl (by kernel_rfl) rfl rfl rfl rfl rfl rfl rfl (mod_v x.2.2.1 (A.length : Int)) ?_
        skip
        (refine VOps.callL (ch := [(0, .cells 57 [.ref 1, .ref 2]), (1, .nest 61 2 (B.map rowN) none), (2, .map (knownE B))]) [0, 6, 2] rfl Try.func11 rfl (by kernel_rfl) rfl rfl rfl rfl ?hh (by decide) rfl rfl rfl (e2) rfl (by rfl) rfl ?_; (case hh => repeat (first | exact SubH.nil | refine SubH.cons rfl rfl rfl ?_)))
        (repeat (first | ((with_reducible refine VOps.same ?_); (first | (refine VOps.nil ?_; try dsimp only [VThen, VBlock]) | refine VOps.vp (by rfl) (by kernel_rfl) (by rfl) (VPure.move rfl rfl) ?_ | refine VOps.vp (by rfl) (by kernel_rfl) (by rfl) (VPure.assign rfl rfl) ?_ | refine VOps.vp (by rfl) (by kernel_rfl) (by rfl) (VPure.field_ptr rfl rfl rfl) ?_ | refine VOps.vv (by rfl) (by kernel_rfl) (by rfl) (VLoad.box1 rfl rfl rfl rfl (by rfl) (by decide)) ?_)) | refine VCode.seq ?_ | refine VCode.region rfl ?_))
        (refine VOps.callL (ch := [(0, .cells 57 [.ref 1, .ref 2]), (1, .nest 61 2 (B.map rowN) none), (2, .map (knownE B))]) [0, 7, 2] rfl Try.func13 rfl (by kernel_rfl) rfl rfl rfl rfl ?hh (by decide) rfl rfl rfl (p1) rfl (by rfl) rfl ?_; (case hh => repeat (first | exact SubH.nil | refine SubH.cons rfl rfl rfl ?_)))
        (repeat (first | ((with_reducible refine VOps.same ?_); (first | (refine VOps.nil ?_; try dsimp only [VThen, VBlock]) | refine VOps.vp (by rfl) (by kernel_rfl) (by rfl) (VPure.move rfl rfl) ?_ | refine VOps.vp (by rfl) (by kernel_rfl) (by rfl) (VPure.assign rfl rfl) ?_ | refine VOps.vp (by rfl) (by kernel_rfl) (by rfl) (VPure.field_ptr rfl rfl rfl) ?_ | refine VOps.vv (by rfl) (by kernel_rfl) (by rfl) (VLoad.box1 rfl rfl rfl rfl (by rfl) (by decide)) ?_)) | refine VCode.seq ?_ | refine VCode.region rfl ?_))
        (refine VOps.callL (ch := [(0, .cells 57 [.ref 1, .ref 2]), (1, .nest 61 2 (C.map rowN) none), (2, .map (knownE C))]) [0, 8, 2] rfl Try.func13 rfl (by kernel_rfl) rfl rfl rfl rfl ?hh (by decide) rfl rfl rfl (p2) rfl (by rfl) rfl ?_; (case hh => repeat (first | exact SubH.nil | refine SubH.cons rfl rfl rfl ?_)))
        (repeat (first | ((with_reducible refine VOps.same ?_); (first | (refine VOps.nil ?_; try dsimp only [VThen, VBlock]) | refine VOps.vp (by rfl) (by kernel_rfl) (by rfl) (VPure.move rfl rfl) ?_ | refine VOps.vp (by rfl) (by kernel_rfl) (by rfl) (VPure.assign rfl rfl) ?_)) | refine VCode.seq ?_ | refine VCode.region rfl ?_))
        refine VOps.pure rfl Try.func15 rfl (by kernel_rfl) rfl rfl rfl rfl rfl rfl rfl (counts_f hFC') ?_
        (repeat (first | ((with_reducible refine VOps.same ?_); (first | (refine VOps.nil ?_; try dsimp only [VThen, VBlock]) | refine VOps.vp (by rfl) (by kernel_rfl) (by rfl) (VPure.move rfl rfl) ?_ | refine VOps.vp (by rfl) (by kernel_rfl) (by rfl) (VPure.assign rfl rfl) ?_ | refine VOps.vp (by rfl) (by kernel_rfl) (by rfl) (VPure.extract rfl rfl rfl) ?_ | refine VOps.vp (by rfl) (by kernel_rfl) (by rfl) (VPure.nei rfl rfl rfl) ?_ | refine VOps.vp (by rfl) (by kernel_rfl) (by rfl) (VPure.pick_f rfl rfl rfl) ?_)) | refine VCode.seq ?_ | refine VCode.region rfl ?_))
        refine VOps.says (d := 137) (v := .val (.bool false)) rfl (by rw [cC, cB]; simp) ?_
        (repeat (first | ((with_reducible refine VOps.same ?_); (first | refine VOps.vp (by rfl) (by kernel_rfl) (by rfl) (VPure.move rfl rfl) ?_))))
        refine VOps.pure rfl Try.func19 rfl (by kernel_rfl) rfl rfl rfl rfl rfl rfl rfl (num_v one) ?_
        (repeat (first | ((with_reducible refine VOps.same ?_); (first | refine VOps.vp (by rfl) (by kernel_rfl) (by rfl) (VPure.move rfl rfl) ?_ | refine VOps.vp (by rfl) (by kernel_rfl) (by rfl) (VPure.addK rfl rfl rfl (by omega)) ?_ | refine VOps.vp (by rfl) (by kernel_rfl) (by rfl) (VPure.nei rfl rfl rfl) ?_ | refine VOps.vp (by rfl) (by kernel_rfl) (by rfl) (VPure.pick_f rfl rfl rfl) ?_))))
        refine VOps.says (d := 145) (v := .val (.bool false)) rfl (by rw [eC, eB]; simp) ?_
        (repeat (first | ((with_reducible refine VOps.same ?_); (first | refine VOps.vp (by rfl) (by kernel_rfl) (by rfl) (VPure.move rfl rfl) ?_))))
        refine VOps.pure rfl Try.func19 rfl (by kernel_rfl) rfl rfl rfl rfl rfl rfl rfl (num_v pop) ?_
        (repeat (first | ((with_reducible refine VOps.same ?_); (first | (refine VOps.nil ?_; try dsimp only [VThen, VBlock]) | refine VOps.vp (by rfl) (by kernel_rfl) (by rfl) (VPure.addK rfl rfl rfl (by omega)) ?_ | refine VOps.vp (by rfl) (by kernel_rfl) (by rfl) (VPure.nei rfl rfl rfl) ?_ | refine VOps.vp (by rfl) (by kernel_rfl) (by rfl) (VPure.pick_f rfl rfl rfl) ?_))))
        refine VCode.cond_f rfl (by rw [pC, pB]; simp) ?_
        (repeat (first | ((with_reducible refine VOps.same ?_); (first | (refine VOps.nil ?_; try dsimp only [VThen, VBlock]) | refine VOps.vp (by rfl) (by kernel_rfl) (by rfl) (VPure.move rfl rfl) ?_ | refine VOps.vp (by rfl) (by kernel_rfl) (by rfl) (VPure.assign rfl rfl) ?_ | refine VOps.vp (by rfl) (by kernel_rfl) (by rfl) (VPure.addK rfl rfl rfl (by omega)) ?_)) | refine VCode.region rfl ?_ | refine VCode.skip ?_))
        (refine Less.mk (l := [0, 9, 2]) hcx ?ss ?hh rfl (by decide) rfl ⟨_, ?_, i + 1, C, by omega, rfl, few_mono hFC (by omega), fun h y hy => (by rw [tC, tB]; exact tA _ _ (hT h y hy)), ?_, rfl⟩; (case ss => repeat (first | exact SubS.nil | refine SubS.cons rfl rfl ?_ | refine SubS.cons (congrArg (fun z => some (V.val (Value.int IntKind.i64 z))) (by omega)) rfl ?_ | refine SubS.cons (congrArg (fun z => some (V.val (Value.bool z))) (by assumption)) rfl ?_)); (case hh => repeat (first | exact SubH.nil | refine SubH.cons rfl rfl rfl ?_)))
        · omega
        · intro y hy
          rw [tC, tB]
          rw [List.take_add_one, ht] at hy
          rcases List.mem_append.1 hy with h | h
          · exact tA _ _ (hI y h)
          · obtain rfl := List.mem_singleton.1 h
            exact hAx
    | none =>
      have hge : l.length ≤ i := List.getElem?_eq_none_iff.1 ht
      rw [List.take_of_length_le hge] at hI
      (repeat (first | ((with_reducible refine VOps.same ?_); (first | (refine VOps.nil ?_; try dsimp only [VThen, VBlock]) | refine VOps.vp (by rfl) (by kernel_rfl) (by rfl) (VPure.move rfl rfl) ?_ | refine VOps.vp (by rfl) (by kernel_rfl) (by rfl) (VPure.len_map TI.und' rfl rfl) ?_ | refine VOps.vp (by rfl) (by kernel_rfl) (by rfl) (VPure.lss rfl rfl rfl) ?_)) | refine VCode.seq ?_ | refine VCode.region rfl ?_))
      refine VCode.cond_f rfl (decide_eq_false (by omega)) ?_
      (repeat (first | ((with_reducible refine VOps.same ?_); (first | (refine VOps.nil ?_; try dsimp only [VThen, VBlock]) | refine VOps.vp (by rfl) (by kernel_rfl) (by rfl) (VPure.move rfl rfl) ?_ | refine VOps.vp (by rfl) (by kernel_rfl) (by rfl) (VPure.assign rfl rfl) ?_ | refine VOps.vp (by rfl) (by kernel_rfl) (by rfl) (VPure.addK rfl rfl rfl (by omega)) ?_)) | refine VCode.region rfl ?_ | refine VCode.exit ?_))
      (refine Less.mk (l := [0, 1, 2]) hcx ?ss ?hh rfl (by decide) rfl ⟨_, ?_, r + 1, S, by omega, rfl, few_mono hF (by omega), fun _ => hI, rfl⟩; (case ss => repeat (first | exact SubS.nil | refine SubS.cons rfl rfl ?_ | refine SubS.cons (congrArg (fun z => some (V.val (Value.int IntKind.i64 z))) (by omega)) rfl ?_ | refine SubS.cons (congrArg (fun z => some (V.val (Value.bool z))) (by assumption)) rfl ?_)); (case hh => repeat (first | exact SubH.nil | refine SubH.cons rfl rfl rfl ?_)))
      omega
  · refine VCode.cond_f rfl (decide_eq_false (by omega)) ?_
    (repeat (first | refine VCode.seq ?_ | refine VCode.region rfl ?_ | refine VCode.exit ?_))
    refine VOps.pure rfl Try.func8 rfl (by kernel_rfl) rfl rfl rfl rfl rfl rfl rfl (wakes_v) ?_
    (repeat (first | ((with_reducible refine VOps.same ?_); (first | (refine VOps.nil ?_; try dsimp only [VThen, VBlock]) | refine VOps.vp (by rfl) (by kernel_rfl) (by rfl) (VPure.assign rfl rfl) ?_))))
    refine VCode.retD rfl rfl (.tmp rfl .nil) ?_
    rfl
-- LAW StackOnce once_law open_steps
theorem once_law (l : List Stp) (g : (∀ a ∈ l, goodS a) ∧ l.length * 32 ≤ reachBytes) : VCalls Try.prog 4 [.sl 4 (l.map encS)] [] 0 (Gives (.val (.bool true))) := once_v l (by
  have h : reachBytes < 140737488355328 := reachBytes_lt
  have := g.2; omega)
end Go.Proofs.Ytdkgbkmaeeicoaa.V

/- close: slices.Sort at []int, in place. -/
import Derived.Test.YtbpjlpokmnmmmaaVSortLay
set_option linter.unusedVariables false
set_option linter.unusedSimpArgs false
namespace Go.Proofs.Ytbpjlpokmnmmmaa.V
open Go Go.RowKit
set_option maxRecDepth 100000 in
set_option maxHeartbeats 1000000 in
theorem len64_v : VCalls Try.prog 50 [.val (.int .u64 0)] [] 0 (Gives (.val (.int .i64 0))) := by
  refine VCalls.enter (n := 25) Try.func50 rfl rfl (by simp) (fun cx hcx => ?_)
  (repeat (first | ((with_reducible refine VOps.same ?_); (first | (refine VOps.nil ?_; try dsimp only [VThen, VBlock]) | refine VOps.vp (by rfl) (by kernel_rfl) (by rfl) (VPure.move rfl rfl) ?_ | refine VOps.vp (by rfl) (by kernel_rfl) (by rfl) (VPure.assign rfl rfl) ?_ | refine VOps.vp (by rfl) (by kernel_rfl) (by rfl) (VPure.geq rfl rfl rfl) ?_)) | refine VCode.seq ?_ | refine VCode.region rfl ?_))
  refine VCode.cond_f rfl rfl ?_
  (repeat (first | ((with_reducible refine VOps.same ?_); (first | (refine VOps.nil ?_; try dsimp only [VThen, VBlock]) | refine VOps.vp (by rfl) (by kernel_rfl) (by rfl) (VPure.move rfl rfl) ?_ | refine VOps.vp (by rfl) (by kernel_rfl) (by rfl) (VPure.geq rfl rfl rfl) ?_)) | refine VCode.seq ?_ | refine VCode.region rfl ?_ | refine VCode.skip ?_))
  refine VCode.cond_f rfl rfl ?_
  (repeat (first | ((with_reducible refine VOps.same ?_); (first | (refine VOps.nil ?_; try dsimp only [VThen, VBlock]) | refine VOps.vp (by rfl) (by kernel_rfl) (by rfl) (VPure.move rfl rfl) ?_ | refine VOps.vp (by rfl) (by kernel_rfl) (by rfl) (VPure.geq rfl rfl rfl) ?_)) | refine VCode.seq ?_ | refine VCode.region rfl ?_ | refine VCode.skip ?_))
  refine VCode.cond_f rfl rfl ?_
  (repeat (first | ((with_reducible refine VOps.same ?_); (first | refine VOps.vp (by rfl) (by kernel_rfl) (by rfl) (VPure.move rfl rfl) ?_ | refine VOps.vp (by rfl) (by kernel_rfl) (by rfl) (VPure.convK TI.und' TI.und' rfl rfl (by decide)) ?_ | (refine VOps.nil ?_; try dsimp only [VThen, VBlock]) | refine VOps.vp (by rfl) (by kernel_rfl) (by rfl) (VPure.assign rfl rfl) ?_ | refine VOps.vp (by rfl) (by kernel_rfl) (by rfl) (VPure.add rfl rfl rfl) ?_ | refine VOps.vp (by rfl) (by kernel_rfl) (by rfl) (VPure.idx_str TI.und' rfl rfl rfl (by decide) (by decide +kernel)) ?_)) | refine VCode.seq ?_ | refine VCode.region rfl ?_ | refine VCode.skip ?_))
  skip
  refine VCode.give hcx rfl rfl rfl rfl rfl ?_
  exact congrArg (fun z => V.val (Value.int IntKind.i64 z)) (by decide +kernel)
theorem ins_nil : VCalls Try.prog 40 [.val (.slice none 0 0), .val (.int .i64 0), .val (.int .i64 0)] [] 0 (Gives (.tup [])) := by
  refine VCalls.enterD (n := 49) Try.func40 rfl rfl (by simp) rfl (fun cx hcx => ?_)
  (repeat (first | ((with_reducible refine VOps.same ?_); (first | (refine VOps.nil ?_; try dsimp only [VThen, VBlock]) | refine VOps.vp (by rfl) (by kernel_rfl) (by rfl) (VPure.move rfl rfl) ?_ | refine VOps.vp (by rfl) (by kernel_rfl) (by rfl) (VPure.assign rfl rfl) ?_ | refine VOps.vp (by rfl) (by kernel_rfl) (by rfl) (VPure.addK rfl rfl rfl (by omega)) ?_)) | refine VCode.seq ?_ | refine VCode.region rfl ?_ | refine VCode.block ?_))
  refine VCode.loop (fun m st => st = ⟨[(6, .val (.int .i64 1)), (2, .val (.int .i64 0))], [], 0⟩) 0 ?_ ?_
  · (refine Less.mk (l := []) hcx ?ss ?hh rfl (by decide) rfl rfl; (case ss => repeat (first | exact SubS.nil | refine SubS.cons rfl rfl ?_ | refine SubS.cons (congrArg (fun z => some (V.val (Value.int IntKind.i64 z))) (by omega)) rfl ?_ | refine SubS.cons (congrArg (fun z => some (V.val (Value.bool z))) (by assumption)) rfl ?_)); (case hh => repeat (first | exact SubH.nil | refine SubH.cons rfl rfl rfl ?_)))
  rintro m st rfl
  (repeat (first | ((with_reducible refine VOps.same ?_); (first | (refine VOps.nil ?_; try dsimp only [VThen, VBlock]) | refine VOps.vp (by rfl) (by kernel_rfl) (by rfl) (VPure.move rfl rfl) ?_ | refine VOps.vp (by rfl) (by kernel_rfl) (by rfl) (VPure.lss rfl rfl rfl) ?_)) | refine VCode.seq ?_ | refine VCode.region rfl ?_))
  refine VCode.cond_f rfl rfl ?_
  refine VCode.exit ?_
  exact ⟨[], .nil, rfl⟩
set_option maxHeartbeats 1000000 in
theorem len_v : VCalls Try.prog 35 [.val (.int .u64 0)] [] 0 (Gives (.val (.int .i64 0))) := by
  refine VCalls.enter (n := 8) Try.func35 rfl rfl (by simp) (fun cx hcx => ?_)
  (repeat (first | ((with_reducible refine VOps.same ?_); (first | (refine VOps.nil ?_; try dsimp only [VThen, VBlock]) | refine VOps.vp (by rfl) (by kernel_rfl) (by rfl) (VPure.assign rfl rfl) ?_)) | refine VCode.seq ?_ | refine VCode.region rfl ?_))
  refine VCode.cond_f rfl rfl ?_
  (repeat (first | ((with_reducible refine VOps.same ?_); (first | refine VOps.vp (by rfl) (by kernel_rfl) (by rfl) (VPure.move rfl rfl) ?_)) | refine VCode.seq ?_ | refine VCode.region rfl ?_ | refine VCode.skip ?_))
  refine VOps.pure rfl Try.func50 rfl (by kernel_rfl) rfl rfl rfl rfl rfl rfl rfl (len64_v) ?_
  (repeat (first | ((with_reducible refine VOps.same ?_); (first | (refine VOps.nil ?_; try dsimp only [VThen, VBlock]) | refine VOps.vp (by rfl) (by kernel_rfl) (by rfl) (VPure.assign rfl rfl) ?_))))
  refine VCode.give hcx rfl rfl rfl rfl rfl ?_
  rfl
set_option maxHeartbeats 1000000 in
theorem pdq_nil : VCalls Try.prog 34 [.val (.slice none 0 0), .val (.int .i64 0), .val (.int .i64 0), .val (.int .i64 0)] [] 0 (Gives (.tup [])) := by
  refine VCalls.enterD (n := 134) Try.func34 rfl rfl (by simp) rfl (fun cx hcx => ?_)
  (repeat (first | ((with_reducible refine VOps.same ?_); (first | (refine VOps.nil ?_; try dsimp only [VThen, VBlock]) | refine VOps.vp (by rfl) (by kernel_rfl) (by rfl) (VPure.assign rfl rfl) ?_)) | refine VCode.seq ?_ | refine VCode.region rfl ?_ | refine VCode.block ?_))
  refine VCode.loop (fun m st => st = ⟨[(0, .val (.slice none 0 0)), (1, .val (.int .i64 0)), (2, .val (.int .i64 0)), (3, .val (.int .i64 0)), (8, .val (.bool true)), (9, .val (.bool true))], [], 0⟩) 0 ?_ ?_
  · (refine Less.mk (l := []) hcx ?ss ?hh rfl (by decide) rfl rfl; (case ss => repeat (first | exact SubS.nil | refine SubS.cons rfl rfl ?_ | refine SubS.cons (congrArg (fun z => some (V.val (Value.int IntKind.i64 z))) (by omega)) rfl ?_ | refine SubS.cons (congrArg (fun z => some (V.val (Value.bool z))) (by assumption)) rfl ?_)); (case hh => repeat (first | exact SubH.nil | refine SubH.cons rfl rfl rfl ?_)))
  rintro m st rfl
  (repeat (first | ((with_reducible refine VOps.same ?_); (first | (refine VOps.nil ?_; try dsimp only [VThen, VBlock]) | refine VOps.vp (by rfl) (by kernel_rfl) (by rfl) (VPure.move rfl rfl) ?_ | refine VOps.vp (by rfl) (by kernel_rfl) (by rfl) (VPure.assign rfl rfl) ?_ | refine VOps.vp (by rfl) (by kernel_rfl) (by rfl) (VPure.subK rfl rfl rfl (by omega)) ?_ | refine VOps.vp (by rfl) (by kernel_rfl) (by rfl) (VPure.leq rfl rfl rfl) ?_)) | refine VCode.seq ?_ | refine VCode.region rfl ?_ | refine VCode.block ?_))
  refine VCode.cond_t rfl rfl ?_
  (repeat (first | ((with_reducible refine VOps.same ?_); (first | refine VOps.vp (by rfl) (by kernel_rfl) (by rfl) (VPure.move rfl rfl) ?_)) | refine VCode.seq ?_ | refine VCode.region rfl ?_))
  refine VOps.pure rfl Try.func40 rfl (by kernel_rfl) rfl rfl rfl rfl rfl rfl rfl (ins_nil) ?_
  (repeat (first | ((with_reducible refine VOps.same ?_); (first | (refine VOps.nil ?_; try dsimp only [VThen, VBlock])))))
  refine VCode.retD rfl rfl .nil ?_
  rfl
theorem sort_nil : VCalls Try.prog 25 [.val (.slice none 0 0)] [] 0 (Gives (.tup [])) := by
  refine VCalls.enterD (n := 11) Try.func25 rfl rfl (by simp) rfl (fun cx hcx => ?_)
  (repeat (first | ((with_reducible refine VOps.same ?_); (first | (refine VOps.nil ?_; try dsimp only [VThen, VBlock]) | refine VOps.vp (by rfl) (by kernel_rfl) (by rfl) (VPure.move rfl rfl) ?_ | refine VOps.vp (by rfl) (by kernel_rfl) (by rfl) (VPure.assign rfl rfl) ?_ | refine VOps.vp (by rfl) (by kernel_rfl) (by rfl) (VPure.len_nil TI.und' rfl rfl) ?_ | refine VOps.vp (by rfl) (by kernel_rfl) (by rfl) (VPure.convK TI.und' TI.und' rfl rfl (by decide)) ?_)) | refine VCode.seq ?_ | refine VCode.region rfl ?_))
  refine VOps.pure rfl Try.func35 rfl (by kernel_rfl) rfl rfl rfl rfl rfl rfl rfl (len_v) ?_
  skip
  refine VOps.pure rfl Try.func34 rfl (by kernel_rfl) rfl rfl rfl rfl rfl rfl rfl (pdq_nil) ?_
  (repeat (first | ((with_reducible refine VOps.same ?_); (first | (refine VOps.nil ?_; try dsimp only [VThen, VBlock])))))
  exact ⟨[], .nil, rfl⟩
theorem sorted_cast (zs : List Nat) : (zs.map fun (k : Nat) => (k : Int)).mergeSort (fun x y => decide (x ≤ y)) = (zs.mergeSort fun x y => decide (x ≤ y)).map fun (k : Nat) => (k : Int) := by
  symm
  refine List.map_mergeSort (fun a _ b _ => ?_)
  exact decide_eq_decide.2 (by omega)
theorem sort_v (zs : List Nat) (hz : zs.length ≤ 1000000000) : VCalls Try.prog 25 [.ref 0] [(0, .arr 3 1 (zs.map encN))] 1 (Leaves (.tup []) [(0, .arr 3 1 ((zs.mergeSort fun x y => decide (x ≤ y)).map encN))] 1) := fun z g w ms h1 h2 h3 => by
  obtain ⟨m0, rfl⟩ : ∃ m0, ms = #[m0] := by
    match ms, h2 with
    | ⟨[a]⟩, _ => exact ⟨a, rfl⟩
  have hgv : gvOf [(0, O.arr 3 1 (zs.map encN))] g 0 = some (g 0) := rfl
  have v0 := h3 0 _ m0 rfl rfl
  obtain rfl : m0 = g 0 := by
    cases v0 with
    | ref _ _ _ _ h => exact h _ hgv
  obtain ⟨_, o', ho', hrep⟩ := h1.obj 0 _ hgv
  obtain rfl := Option.some.inj ho'
  generalize hx : g 0 = v at hrep hgv
  cases hrep with
  | arr _ _ _ _ cs hown hrow hmost hone hcs =>
    have hcs' : ∀ (i k : Nat), zs[i]? = some k → cs[i]? = some (.int .i64 (k : Int)) := fun i k hk => by
      obtain ⟨m, hm, hd⟩ := hcs i 0 (.val (.int .i64 (k : Int))) (by rw [List.getElem?_map, hk]; rfl)
      cases hd
      simpa using hm
    rw [List.length_map] at hown
    obtain ⟨hlen, hcase⟩ := hown
    rw [Nat.mul_one] at hlen
    rcases hcase with ⟨rfl, hz0⟩ | ⟨gb, cap, cur, rfl, _, hb, hle, hcap, hcur, htake⟩
    · obtain rfl : zs = [] := List.length_eq_zero_iff.1 hz0
      have hrep0 : HRep (cxOf z g [] 0 w) g [] 0 w := ⟨rfl, rfl, rfl, Nat.le_refl _, fun _ _ _ => rfl, fun _ _ h => by simp [gvOf, lk] at h, fun _ _ _ _ _ h => by simp [gvOf, lk] at h, fun _ _ _ h => by simp [gvOf, lk] at h, fun _ _ _ h => h, Nat.le_refl _, fun k hk => ⟨(h1.apz k hk).1, fun ⟨_, _, h, _⟩ => by simp [gvOf, lk] at h⟩⟩
      refine (sort_nil z g w #[.slice none 0 0] hrep0 rfl (fun i v m hv hm => ?_)).mono ?_
      · match i, hv, hm with
        | 0, hv, hm => obtain rfl := Option.some.inj hv; obtain rfl := Option.some.inj hm; exact .val _ rfl
        | i + 1, hv, hm => cases hv
      · rintro e w' ⟨g', h', x', out, hh, ho, rfl, rfl, rfl⟩
        have hk : ∀ k, k < w.heap.size → w'.heap[k]? = w.heap[k]? := fun k hk => hh.old k hk (fun ⟨_, _, h, _⟩ => by simp [cxOf, gvOf, lk] at h)
        refine ⟨g, _, _, .ret (.tup []), (HRep.kept (st := ⟨[], [(0, O.arr 3 1 (([] : List Nat).map encN))], 1⟩) h1 hh.size hh.os hh.tape hh.output hk).1, ?_, rfl, by simp, rfl⟩
        cases e with
        | returned v => exact VRep.dry ho rfl
        | _ => exact absurd ho (by simp [outRep])
    · have hlt : gb < w.heap.size := (Array.getElem?_eq_some_iff.1 hb).1
      have hcj : ∀ j, j < zs.length → cur[j]? = cs[j]? := fun j hj => by
        rw [← htake, List.getElem?_take, if_pos (by rw [Nat.mul_one]; exact hj), Array.getElem?_toList]
      have hH : «Sort».Holds (Value.int .i64) w gb 0 (zs.map fun (k : Nat) => (k : Int)).toArray := by
        intro j hj
        have hj : j < zs.length := by simpa using hj
        have h5 : cur[j]? = some (.int .i64 (zs[j] : Int)) := by rw [hcj j hj]; exact hcs' j _ (List.getElem?_eq_getElem hj)
        refine ⟨?_, ?_⟩
        · simp [World.cell?, hb, h5, hj]
        · simp [World.frozen?, hb]
      have H := Any.slices_Sort_int Try.lays189 gb 0 cap (zs.map fun (k : Nat) => (k : Int)) w hH hlt (by rw [List.length_map]; omega)
      rw [List.length_map, sorted_cast] at H
      refine Calls.mono H ?_
      rintro e w' ⟨rfl, q, os, rfl⟩
      generalize hS : (zs.mergeSort fun x y => decide (x ≤ y)) = S
      have hSl : S.length = zs.length := by rw [← hS, List.length_mergeSort]
      generalize hw1 : «Sort».putRow (Value.int .i64) («Sort».ahead w q) gb 0 (S.map fun (k : Nat) => (k : Int)).toArray = w1
      have hb1 : w1.heap[gb]? = some (.cells («Sort».putCells (Value.int .i64) 0 (S.map fun (k : Nat) => (k : Int)).toArray cur) 3 (0, 0)) := by
        rw [← hw1]
        simp [«Sort».putRow, «Sort».mapBlock, «Sort».ahead, Array.getElem?_modify, hb, «Sort».onCells]
      have hw : ∀ k, k ≠ gb → w1.heap[k]? = w.heap[k]? := fun k hk => by
        rw [← hw1]
        simp [«Sort».putRow, «Sort».mapBlock, «Sort».ahead, Array.getElem?_modify, Ne.symm hk]
      have hsz : w.heap.size ≤ w1.heap.size := by rw [← hw1]; simp [«Sort».putRow, «Sort».mapBlock, «Sort».ahead]
      have hput : ∀ j, («Sort».putCells (Value.int .i64) 0 (S.map fun (k : Nat) => (k : Int)).toArray cur)[j]? = if j < zs.length then (S[j]?).map fun (k : Nat) => Value.int .i64 (k : Int) else cur[j]? := by
        intro j
        simp only [«Sort».putCells, Array.getElem?_mapIdx]
        by_cases hj : j < zs.length
        · rw [if_pos hj, hcj j hj, List.getElem?_eq_getElem (by omega : j < cs.length), List.getElem?_eq_getElem (by omega : j < S.length)]
          simp [hSl, hj]
        · rw [if_neg hj]
          have : ¬ j < S.length := by omega
          simp [this]
      have hR : HRep (cxOf z g [(0, O.arr 3 1 (zs.map encN))] 1 w) g ((0, O.arr 3 1 (S.map encN)) :: [(0, O.arr 3 1 (zs.map encN))]) 1 w1 := by
        refine h1.change (o' := .arr 3 1 (S.map encN)) rfl rfl rfl hgv rfl hsz hw (by rw [← hw1]; rfl) (by rw [← hw1]; rfl) (by rw [← hw1]; rfl) ?_
        refine .arr 3 1 _ _ (S.map fun (k : Nat) => Value.int .i64 (k : Int)) ⟨by simp, .inr ⟨gb, cap, _, by rw [List.length_map, hSl], Nat.zero_le _, hb1, by rw [List.length_map, hSl]; exact hle, hcap, by simp [«Sort».putCells, hcur], ?_⟩⟩ ?_ (by rw [List.length_map, hSl]; simp only [most]; omega) ?_ ?_
        · apply List.ext_getElem?
          intro j
          rw [List.length_map, hSl, Nat.mul_one, List.getElem?_take, Array.getElem?_toList, hput, List.getElem?_map]
          by_cases hj : j < zs.length
          · rw [if_pos hj, if_pos hj]
          · rw [if_neg hj, List.getElem?_eq_none (by omega)]; rfl
        · intro row hrow
          obtain ⟨k, _, rfl⟩ := List.mem_map.1 hrow
          rfl
        · intro m hm
          obtain ⟨k, _, rfl⟩ := List.mem_map.1 hm
          rfl
        · intro i j d hd
          rw [List.getElem?_map] at hd
          cases hi : S[i]? with
          | none => rw [hi] at hd; cases hd
          | some k =>
            rw [hi] at hd
            match j, hd with
            | 0, hd =>
              obtain rfl := Option.some.inj hd
              exact ⟨_, by rw [Nat.mul_one, Nat.add_zero, List.getElem?_map, hi]; rfl, .val _ rfl⟩
            | j + 1, hd => cases hd
      have hk : ∀ k, k < w1.heap.size → («Sort».grow w1 os).heap[k]? = w1.heap[k]? := fun k hk => by
        show (w1.heap ++ os)[k]? = _
        exact Array.getElem?_append_left hk
      have hR2 := (HRep.kept (st := ⟨[], (0, O.arr 3 1 (S.map encN)) :: [(0, O.arr 3 1 (zs.map encN))], 1⟩) hR (show w1.heap.size ≤ («Sort».grow w1 os).heap.size by show _ ≤ (w1.heap ++ os).size; simp) rfl rfl rfl hk).1
      have r0 : Rep 0 (cxOf z g [(0, O.arr 3 1 (zs.map encN))] 1 w) g ⟨[], (0, O.arr 3 1 (S.map encN)) :: [(0, O.arr 3 1 (zs.map encN))], 1⟩ { tmps := #[], defers := [] } («Sort».grow w1 os) := ⟨hR2, rfl, rfl, fun d v h => by cases h⟩
      have r1 := Sub.rep (l := [0]) (st' := ⟨[], [(0, O.arr 3 1 (S.map encN))], 1⟩) ⟨SubS.nil, SubH.cons rfl rfl rfl SubH.nil, rfl, by decide, fun i hi => by obtain rfl := List.mem_singleton.1 hi; exact Nat.zero_lt_one⟩ (Nat.le_refl _) (fun i hi => by obtain rfl : i = 0 := Nat.lt_one_iff.1 hi; rfl) r0
      exact ⟨_, _, _, .ret (.tup []), r1.h, .tup [] #[] rfl (fun i c m hc hm => by cases hc), rfl, rfl, rfl⟩
end Go.Proofs.Ytbpjlpokmnmmmaa.V

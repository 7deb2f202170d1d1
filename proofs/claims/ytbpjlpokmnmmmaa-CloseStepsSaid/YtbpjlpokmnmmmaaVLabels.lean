/- close: Labels. -/
import Derived.Test.YtbpjlpokmnmmmaaVCKeep
import Derived.Test.YtbpjlpokmnmmmaaVCompact
set_option linter.unusedVariables false
set_option linter.unusedSimpArgs false
namespace Go.Proofs.Ytbpjlpokmnmmmaa.V
open Go Go.RowKit Go.Proofs.Ytbpjlpokmnmmmaa.CG
def labs (l : List NEdge) : List Nat := (l.filter fun e => !decide (e.1 = -1)).map fun e => e.1.toNat
def labsOf (n : Net) (l : List Int) : List Nat := l.flatMap fun s => labs (n.getD s.toNat [])
theorem labs_succ {l : List NEdge} {k : Nat} {e : NEdge} (h : l[k]? = some e) : labs (l.take (k + 1)) = labs (l.take k) ++ (if e.1 = -1 then [] else [e.1.toNat]) := by
  unfold labs
  rw [List.take_add_one, h]
  by_cases hc : e.1 = -1
  · simp [hc]
  · simp [hc]
theorem labsOf_succ {n : Net} {l : List Int} {k : Nat} {s : Int} (h : l[k]? = some s) : labsOf n (l.take (k + 1)) = labsOf n (l.take k) ++ labs (n.getD s.toNat []) := by
  unfold labsOf
  rw [List.take_add_one, h]; simp
theorem labs_len (l : List NEdge) : (labs l).length ≤ l.length := by
  unfold labs; rw [List.length_map]; exact List.length_filter_le _ _
theorem labsOf_len {n : Net} (hg : goodNet n = true) (l : List Int) : (labsOf n l).length ≤ 8000 * l.length := by
  unfold labsOf
  induction l with
  | nil => simp
  | cons s l ih =>
    rw [List.flatMap_cons, List.length_append, List.length_cons]
    have h1 := labs_len (n.getD s.toNat [])
    have h2 : (n.getD s.toNat []).length ≤ 8000 := by
      rw [List.getD_eq_getElem?_getD]
      cases h : n[s.toNat]? with
      | none => simp
      | some es => exact (good_edges hg).2.2.2.2 es (List.mem_of_getElem? h)
    omega
def labels (n : Net) (l : List Int) : List Int := Lib.compact (((labsOf n l).mergeSort fun x y => decide (x ≤ y)).map fun (k : Nat) => (k : Int))
def labelsR (n : Net) (l : List Int) : V := .tup [.sl 1 ((if mayB n l = true then labels n l else []).map encZ), .val (.int .i64 (if mayB n l = true then 0 else 1))]
set_option maxHeartbeats 4000000 in
theorem labels_v (n : Net) (l : List Int) (hn : n.length ≤ 1000000) (hm : many n ≤ 1000000) (hl : l.length ≤ 1000) : VCalls Try.prog 12 [netV n, .sl 1 (l.map encZ)] [] 0 (Gives (labelsR n l)) := by
  refine VCalls.enterD (n := 45) Try.func12 rfl rfl (by simp) rfl (fun cx hcx => ?_)
  (repeat (first | ((with_reducible refine VOps.same ?_); (first | (refine VOps.nil ?_; try dsimp only [VThen, VBlock]) | refine VOps.vp (by rfl) (by kernel_rfl) (by rfl) (VPure.move rfl rfl) ?_ | refine VOps.vp (by rfl) (by kernel_rfl) (by rfl) (VPure.assign rfl rfl) ?_ | refine VOps.vv (by rfl) (by kernel_rfl) (by rfl) (VLoad.boxA rfl rfl rfl (by rfl) (Nat.le_of_ble_eq_true (by rfl)) (by decide)) ?_ | refine VOps.box rfl rfl (by kernel_rfl) rfl rfl rfl rfl ?_)) | refine VCode.seq ?_ | refine VCode.region rfl ?_))
  refine VOps.pure rfl Try.func23 rfl (by kernel_rfl) rfl rfl rfl rfl rfl rfl rfl (may_v n l hn hm (by omega)) ?_
  (repeat (first | ((with_reducible refine VOps.same ?_); (first | (refine VOps.nil ?_; try dsimp only [VThen, VBlock]) | refine VOps.vp (by rfl) (by kernel_rfl) (by rfl) (VPure.not rfl rfl) ?_))))
  refine VCode.cond rfl (fun h2 => ?_) (fun h2 => ?_)
  · have h2 : mayB n l = false := by simpa using h2
    (repeat (first | ((with_reducible refine VOps.same ?_); (first | (refine VOps.nil ?_; try dsimp only [VThen, VBlock]) | refine VOps.vp (by rfl) (by kernel_rfl) (by rfl) (VPure.assign rfl rfl) ?_)) | refine VCode.seq ?_ | refine VCode.region rfl ?_))
    refine VCode.nilS 4 1 rfl ?_
    refine VCode.retD rfl rfl (.tmp rfl (.tmp rfl .nil)) ?_
    unfold labelsR; rw [h2]; rfl
  have h2 : mayB n l = true := by simpa using h2
  have hg : goodNet n = true := by unfold mayB at h2; simp only [Bool.and_eq_true] at h2; exact h2.1
  obtain ⟨g1, g2, g3, g4, g5⟩ := good_edges hg
  have hin : ∀ s ∈ l, 0 ≤ s ∧ s < n.length := fun s hs => by
    unfold mayB at h2
    simp only [Bool.and_eq_true, Bool.not_eq_true', List.any_eq_false] at h2
    have := h2.2 s hs
    unfold outOf at this
    simp at this; omega
  (repeat (first | ((with_reducible refine VOps.same ?_); (first | (refine VOps.nil ?_; try dsimp only [VThen, VBlock]) | refine VOps.vp (by rfl) (by kernel_rfl) (by rfl) (VPure.move rfl rfl) ?_ | refine VOps.vp (by rfl) (by kernel_rfl) (by rfl) (VPure.assign rfl rfl) ?_ | refine VOps.vp (by rfl) (by kernel_rfl) (by rfl) (VPure.len_map TI.und' rfl rfl) ?_)) | refine VCode.seq ?_ | refine VCode.region rfl ?_ | refine VCode.block ?_ | refine VCode.skip ?_))
  refine VCode.nilObj 6 3 1 rfl ?_
  refine VCode.loop (fun m st => ∃ k : Nat, k ≤ l.length ∧ m = l.length - k ∧ st = ⟨[(17, .val (.int .i64 (k : Int))), (15, .sl 1 (l.map encZ)), (16, .val (.int .i64 (l.length : Int))), (2, .ptr 0 0), (6, .ref 1)], [(0, .cells 24 [.sl 1 (n.map encL)]), (1, .arr 3 1 ((labsOf n (l.take k)).map encN))], 2⟩) l.length ?_ ?_
  · (refine Less.mk (l := [0, 1]) hcx ?ss ?hh rfl (by decide) rfl ⟨0, by omega, by omega, rfl⟩; (case ss => repeat (first | exact SubS.nil | refine SubS.cons rfl rfl ?_ | refine SubS.cons (congrArg (fun z => some (V.val (Value.int IntKind.i64 z))) (by omega)) rfl ?_ | refine SubS.cons (congrArg (fun z => some (V.val (Value.bool z))) (by assumption)) rfl ?_)); (case hh => repeat (first | exact SubH.nil | refine SubH.cons rfl rfl rfl ?_)))
  rintro m st ⟨k, hkl, rfl, rfl⟩
  have hsl := labsOf_len hg (l.take k)
  have htl : (l.take k).length ≤ l.length := by rw [List.length_take]; omega
  cases ht : l[k]? with
  | some s =>
    have hlt : k < l.length := (List.getElem?_eq_some_iff.1 ht).1
    have hs := hin s (List.mem_of_getElem? ht)
    obtain ⟨q, rfl⟩ : ∃ q : Nat, s = (q : Int) := ⟨s.toNat, by omega⟩
    obtain ⟨es, hes⟩ : ∃ es, n[q]? = some es := ⟨_, List.getElem?_eq_getElem (by omega)⟩
    have hes8 := g5 es (List.mem_of_getElem? hes)
    have hsucc := labsOf_succ (n := n) ht
    rw [show n.getD (q : Int).toNat [] = es by rw [Int.toNat_natCast, List.getD_eq_getElem?_getD, hes]; rfl] at hsucc
    (repeat (first | ((with_reducible refine VOps.same ?_); (first | (refine VOps.nil ?_; try dsimp only [VThen, VBlock]) | refine VOps.vp (by rfl) (by kernel_rfl) (by rfl) (VPure.lss rfl rfl rfl) ?_)) | refine VCode.seq ?_ | refine VCode.region rfl ?_))
    refine VCode.cond_t rfl (decide_eq_true (by omega)) ?_
    (repeat (first | ((with_reducible refine VOps.same ?_); (first | (refine VOps.nil ?_; try dsimp only [VThen, VBlock]) | refine VOps.vp (by rfl) (by kernel_rfl) (by rfl) (VPure.move rfl rfl) ?_ | refine VOps.vp (by rfl) (by kernel_rfl) (by rfl) (VPure.assign rfl rfl) ?_ | refine VOps.vp (by rfl) (by kernel_rfl) (by rfl) (VPure.len_map TI.und' rfl rfl) ?_ | refine VOps.vp (by rfl) (by kernel_rfl) (by rfl) (VPure.idx_map rfl rfl rfl (by assumption)) ?_ | refine VOps.vp (by rfl) (by kernel_rfl) (by rfl) (VPure.field_ptr rfl rfl rfl) ?_ | refine VOps.vv (by rfl) (by kernel_rfl) (by rfl) (VLoad.el1 rfl rfl rfl (by rfl)) ?_ | refine VOps.vv (by rfl) (by kernel_rfl) (by rfl) (VLoad.box1 rfl rfl rfl rfl (by rfl) (by decide)) ?_)) | refine VCode.seq ?_ | refine VCode.region rfl ?_ | refine VCode.block ?_ | refine VCode.skip ?_))
    refine VCode.loop (fun m st => ∃ j : Nat, j ≤ es.length ∧ m = es.length - j ∧ st = ⟨[(27, .val (.int .i64 (j : Int))), (25, .sl 2 (es.map encE)), (26, .val (.int .i64 (es.length : Int))), (17, .val (.int .i64 (k : Int))), (15, .sl 1 (l.map encZ)), (16, .val (.int .i64 (l.length : Int))), (2, .ptr 0 0), (6, .ref 1)], [(0, .cells 24 [.sl 1 (n.map encL)]), (1, .arr 3 1 ((labsOf n (l.take k) ++ labs (es.take j)).map encN))], 2⟩) es.length ?_ ?_
    · refine Less.mk (l := [0, 1]) (st' := ⟨[(27, .val (.int .i64 ((0 : Nat) : Int))), (25, .sl 2 (es.map encE)), (26, .val (.int .i64 (es.length : Int))), (17, .val (.int .i64 (k : Int))), (15, .sl 1 (l.map encZ)), (16, .val (.int .i64 (l.length : Int))), (2, .ptr 0 0), (6, .ref 1)], [(0, .cells 24 [.sl 1 (n.map encL)]), (1, .arr 3 1 ((labsOf n (l.take k) ++ labs (es.take 0)).map encN))], 2⟩) hcx ?ss ?hh rfl (by decide) rfl ⟨0, by omega, by omega, rfl⟩
      case ss => repeat (first | exact SubS.nil | refine SubS.cons rfl rfl ?_)
      case hh =>
        refine SubH.cons rfl rfl rfl (SubH.cons ?_ rfl rfl SubH.nil)
        show some (O.arr 3 1 _) = some (O.arr 3 1 _)
        rw [show labs (es.take 0) = [] from rfl, List.append_nil]
    rintro m st ⟨j, hj, rfl, rfl⟩
    have hhl := labs_len (es.take j)
    have hhl2 : (es.take j).length ≤ es.length := by rw [List.length_take]; omega
    cases hu : es[j]? with
    | some e =>
      have hlt2 : j < es.length := (List.getElem?_eq_some_iff.1 hu).1
      have hh := labs_succ hu
      have hge := g4 es (List.mem_of_getElem? hes) e (List.mem_of_getElem? hu)
      (repeat (first | ((with_reducible refine VOps.same ?_); (first | (refine VOps.nil ?_; try dsimp only [VThen, VBlock]) | refine VOps.vp (by rfl) (by kernel_rfl) (by rfl) (VPure.lss rfl rfl rfl) ?_)) | refine VCode.seq ?_ | refine VCode.region rfl ?_))
      refine VCode.cond_t rfl (decide_eq_true (by omega)) ?_
      (repeat (first | ((with_reducible refine VOps.same ?_); (first | (refine VOps.nil ?_; try dsimp only [VThen, VBlock]) | refine VOps.vp (by rfl) (by kernel_rfl) (by rfl) (VPure.idx_map rfl rfl rfl (by assumption)) ?_ | refine VOps.vp (by rfl) (by kernel_rfl) (by rfl) (VPure.field_ptr rfl rfl rfl) ?_ | refine VOps.vv (by rfl) (by kernel_rfl) (by rfl) (VLoad.box1 rfl rfl rfl rfl (by rfl) (by decide)) ?_ | refine VOps.vv (by rfl) (by kernel_rfl) (by rfl) (VLoad.elA rfl rfl (by rfl) (Nat.le_of_ble_eq_true (by rfl))) ?_ | refine VOps.vp (by rfl) (by kernel_rfl) (by rfl) (VPure.nei rfl rfl rfl) ?_ | refine VOps.alloc rfl rfl (by kernel_rfl) rfl (by kernel_rfl) rfl ?_ | refine VOps.store rfl rfl (by kernel_rfl) rfl rfl rfl rfl rfl rfl (Nat.le_of_ble_eq_true (by rfl)) rfl ?_)) | refine VCode.seq ?_ | refine VCode.region rfl ?_ | refine VCode.block ?_ | refine VCode.skip ?_))
      refine VCode.cond rfl (fun hb => ?_) (fun hb => ?_)
      · have hb : ¬ e.1 = -1 := by simpa using hb
        rw [if_neg hb] at hh
        have h0 : 0 ≤ e.1 := by omega
        (repeat (first | ((with_reducible refine VOps.same ?_); (first | refine VOps.vp (by rfl) (by kernel_rfl) (by rfl) (VPure.move rfl rfl) ?_ | refine VOps.vp (by rfl) (by kernel_rfl) (by rfl) (VPure.field_ptr rfl rfl rfl) ?_ | refine VOps.vv (by rfl) (by kernel_rfl) (by rfl) (VLoad.box1 rfl rfl rfl rfl (by rfl) (by decide)) ?_ | refine VOps.one rfl rfl (by kernel_rfl) rfl (by rfl) (by decide) (by decide) rfl (by rfl) (by rfl) ?_)) | refine VCode.region rfl ?_))
        refine VOps.append (zs := (labsOf n (l.take k) ++ labs (es.take (j + 1))).map encN) rfl rfl (by kernel_rfl) rfl (by rfl) (by decide) rfl (.arr rfl) rfl (.arr rfl) (by simp only [List.length_append, List.length_cons, List.length_nil, List.length_map]; unfold most; omega) (by simp only [List.length_append, List.length_cons, List.length_nil, List.length_map]; unfold most; omega) rfl ( by rw [hh, ← List.append_assoc, List.map_append (l₂ := [e.1.toNat])]; show _ ++ [[D.val (.int .i64 e.1)]] = _ ++ [[D.val (.int .i64 (e.1.toNat : Int))]]; rw [Int.toNat_of_nonneg h0]) ?_
        (repeat (first | ((with_reducible refine VOps.same ?_); (first | (refine VOps.nil ?_; try dsimp only [VThen, VBlock]) | refine VOps.vp (by rfl) (by kernel_rfl) (by rfl) (VPure.move rfl rfl) ?_ | refine VOps.vp (by rfl) (by kernel_rfl) (by rfl) (VPure.assign rfl rfl) ?_ | refine VOps.vp (by rfl) (by kernel_rfl) (by rfl) (VPure.addK rfl rfl rfl (by omega)) ?_)) | refine VCode.region rfl ?_))
        (refine Less.mk (l := [0, 4]) hcx ?ss ?hh rfl (by decide) rfl ⟨_, ?_, j + 1, by omega, rfl, rfl⟩; (case ss => repeat (first | exact SubS.nil | refine SubS.cons rfl rfl ?_ | refine SubS.cons (congrArg (fun z => some (V.val (Value.int IntKind.i64 z))) (by omega)) rfl ?_ | refine SubS.cons (congrArg (fun z => some (V.val (Value.bool z))) (by assumption)) rfl ?_)); (case hh => repeat (first | exact SubH.nil | refine SubH.cons rfl rfl rfl ?_)))
        omega
      · have hb : e.1 = -1 := by simpa using hb
        rw [if_pos hb, List.append_nil] at hh
        rw [← hh]
        (repeat (first | ((with_reducible refine VOps.same ?_); (first | (refine VOps.nil ?_; try dsimp only [VThen, VBlock]) | refine VOps.vp (by rfl) (by kernel_rfl) (by rfl) (VPure.move rfl rfl) ?_ | refine VOps.vp (by rfl) (by kernel_rfl) (by rfl) (VPure.addK rfl rfl rfl (by omega)) ?_)) | refine VCode.region rfl ?_ | refine VCode.skip ?_))
        (refine Less.mk (l := [0, 1]) hcx ?ss ?hh rfl (by decide) rfl ⟨_, ?_, j + 1, by omega, rfl, rfl⟩; (case ss => repeat (first | exact SubS.nil | refine SubS.cons rfl rfl ?_ | refine SubS.cons (congrArg (fun z => some (V.val (Value.int IntKind.i64 z))) (by omega)) rfl ?_ | refine SubS.cons (congrArg (fun z => some (V.val (Value.bool z))) (by assumption)) rfl ?_)); (case hh => repeat (first | exact SubH.nil | refine SubH.cons rfl rfl rfl ?_)))
        omega
    | none =>
      have hge : es.length ≤ j := List.getElem?_eq_none_iff.1 hu
      obtain rfl : j = es.length := by omega
      rw [List.take_length, ← hsucc]
      (repeat (first | ((with_reducible refine VOps.same ?_); (first | (refine VOps.nil ?_; try dsimp only [VThen, VBlock]) | refine VOps.vp (by rfl) (by kernel_rfl) (by rfl) (VPure.lss rfl rfl rfl) ?_)) | refine VCode.seq ?_ | refine VCode.region rfl ?_))
      refine VCode.cond_f rfl (decide_eq_false (by omega)) ?_
      (repeat (first | ((with_reducible refine VOps.same ?_); (first | (refine VOps.nil ?_; try dsimp only [VThen, VBlock]) | refine VOps.vp (by rfl) (by kernel_rfl) (by rfl) (VPure.move rfl rfl) ?_ | refine VOps.vp (by rfl) (by kernel_rfl) (by rfl) (VPure.addK rfl rfl rfl (by omega)) ?_)) | refine VCode.region rfl ?_ | refine VCode.exit ?_))
      (refine Less.mk (l := [0, 1]) hcx ?ss ?hh rfl (by decide) rfl ⟨_, ?_, k + 1, by omega, rfl, rfl⟩; (case ss => repeat (first | exact SubS.nil | refine SubS.cons rfl rfl ?_ | refine SubS.cons (congrArg (fun z => some (V.val (Value.int IntKind.i64 z))) (by omega)) rfl ?_ | refine SubS.cons (congrArg (fun z => some (V.val (Value.bool z))) (by assumption)) rfl ?_)); (case hh => repeat (first | exact SubH.nil | refine SubH.cons rfl rfl rfl ?_)))
      omega
  | none =>
    have hge : l.length ≤ k := List.getElem?_eq_none_iff.1 ht
    obtain rfl : k = l.length := by omega
    rw [List.take_length] at *
    have hsl2 : ((labsOf n l).mergeSort fun x y => decide (x ≤ y)).length ≤ 10000000 := by rw [List.length_mergeSort]; omega
    (repeat (first | ((with_reducible refine VOps.same ?_); (first | (refine VOps.nil ?_; try dsimp only [VThen, VBlock]) | refine VOps.vp (by rfl) (by kernel_rfl) (by rfl) (VPure.lss rfl rfl rfl) ?_)) | refine VCode.seq ?_ | refine VCode.region rfl ?_))
    refine VCode.cond_f rfl (decide_eq_false (by omega)) ?_
    (repeat (first | ((with_reducible refine VOps.same ?_); (first | refine VOps.vp (by rfl) (by kernel_rfl) (by rfl) (VPure.move rfl rfl) ?_)) | refine VCode.seq ?_ | refine VCode.region rfl ?_ | refine VCode.exit ?_))
    (refine VOps.callL (ch := [(0, .arr 3 1 ((labsOf n l).map encN))]) [1] rfl Try.func25 rfl (by kernel_rfl) rfl rfl rfl rfl ?hh (by decide) rfl rfl rfl (sort_v (labsOf n l) (by omega)) rfl (by rfl) rfl ?_; (case hh => repeat (first | exact SubH.nil | refine SubH.cons rfl rfl rfl ?_)))
    (repeat (first | ((with_reducible refine VOps.same ?_); (first | (refine VOps.nil ?_; try dsimp only [VThen, VBlock]) | refine VOps.vp (by rfl) (by kernel_rfl) (by rfl) (VPure.move rfl rfl) ?_)) | refine VCode.seq ?_ | refine VCode.region rfl ?_))
    (refine VOps.callL (ch := [(0, .arr 3 1 (((labsOf n l).mergeSort fun x y => decide (x ≤ y)).map encN))]) [1] rfl Try.func26 rfl (by kernel_rfl) rfl rfl rfl rfl ?hh (by decide) rfl rfl rfl (compact_v _ hsl2) rfl (by rfl) rfl ?_; (case hh => repeat (first | exact SubH.nil | refine SubH.cons rfl rfl rfl ?_)))
    (repeat (first | ((with_reducible refine VOps.same ?_); (first | (refine VOps.nil ?_; try dsimp only [VThen, VBlock]) | refine VOps.vp (by rfl) (by kernel_rfl) (by rfl) (VPure.assign rfl rfl) ?_))))
    refine VCode.retD rfl rfl (.tmp rfl (.tmp rfl .nil)) ?_
    unfold labelsR; rw [h2]; rfl
end Go.Proofs.Ytbpjlpokmnmmmaa.V

/- What E needs of this session's own texts, part 11: put together by wip/dce.py. -/
import Derived.Test.YtfjfbapiheehaaaK10E
section
-- YtfjfbapiheehaaaVC
set_option linter.unusedVariables false
set_option linter.unusedSimpArgs false
namespace Go.Proofs.Ytfjfbapiheehaaa.V
open Go Go.RowKit
/-- How much there is, as far as it is counted. -/
def lgo : Nat → List Nat → Nat
  | n, [] => n
  | n, m :: l => if n ≤ 4000 then lgo (n + 1 + min m 4000) l else n
theorem lgo_stop {n : Nat} (h : 4000 < n) (l : List Nat) : lgo n l = n := by
  cases l with
  | nil => rfl
  | cons m l => unfold lgo; rw [if_neg (by omega)]
theorem lgo_small (l : List Nat) : ∀ n, lgo n l ≤ 4000 → n + l.length ≤ 4000 ∧ ∀ m ∈ l, m ≤ 4000 := by
  induction l with
  | nil => intro n h; exact ⟨h, fun m h => by cases h⟩
  | cons m l ih =>
    intro n h
    unfold lgo at h
    split at h
    · obtain ⟨h1, h2⟩ := ih _ h
      rw [List.length_cons]
      refine ⟨by omega, fun q hq => ?_⟩
      rcases List.mem_cons.1 hq with rfl | hq
      · omega
      · exact h2 q hq
    · omega
theorem lgo_step {l : List Nat} {k n m : Nat} (h : l[k]? = some m) (hn : n ≤ 4000) : lgo n (l.drop k) = lgo (n + 1 + min m 4000) (l.drop (k + 1)) := by
  rw [List.drop_eq_getElem_cons (List.getElem?_eq_some_iff.1 h).1, (List.getElem?_eq_some_iff.1 h).2]
  conv => lhs; unfold lgo
  rw [if_pos hn]
theorem lgo_done {l : List Nat} {k n : Nat} (h : l.length ≤ k) : lgo n (l.drop k) = n := by
  rw [List.drop_of_length_le h]; rfl
theorem lgo_max (l : List Nat) : ∀ n, n ≤ 8001 → lgo n l ≤ 8001 := by
  induction l with
  | nil => intro n h; exact h
  | cons m l ih =>
    intro n h
    unfold lgo
    split
    · exact ih _ (by omega)
    · exact h
def tsz (g : Gr) : List Nat := g.terms.map ByteArray.size
def nsz (g : Gr) : List Nat := g.names.map ByteArray.size
def rsz (g : Gr) : List Nat := g.rules.map fun r => r.right.length
def sum1 (g : Gr) : Nat := lgo 0 (tsz g)
def sum2 (g : Gr) : Nat := lgo (sum1 g) (nsz g)
def sum3 (g : Gr) : Nat := lgo (sum2 g) (rsz g)
def largeG (g : Gr) : Bool := decide (4000 < sum3 g) || decide (200 < g.rules.length)
theorem small_sized {g : Gr} (h : largeG g = false) : Sized g ∧ g.rules.length ≤ 200 := by
  unfold largeG at h
  simp only [Bool.or_eq_false_iff, decide_eq_false_iff_not] at h
  have h3 := lgo_small (rsz g) (sum2 g) (by have := h.1; unfold sum3 at this; omega)
  have h2 := lgo_small (nsz g) (sum1 g) (by have := h3.1; unfold sum2 at this; omega)
  have h1 := lgo_small (tsz g) 0 (by have := h2.1; unfold sum1 at this; omega)
  simp only [tsz, nsz, rsz, List.length_map] at h1 h2 h3
  refine ⟨⟨by omega, by omega, by omega, fun r hr => h3.2 _ (List.mem_map.2 ⟨r, hr, rfl⟩), fun s hs => h1.2 _ (List.mem_map.2 ⟨s, hs, rfl⟩), fun s hs => h2.2 _ (List.mem_map.2 ⟨s, hs, rfl⟩)⟩, by omega⟩
theorem min_is (m : Nat) : (if (4000 : Int) < (m : Int) then (4000 : Int) else (m : Int)) = ((min m 4000 : Nat) : Int) := by split <;> omega
theorem sum_bound {n m : Nat} (h : n ≤ 4000) : n + 1 + min m 4000 ≤ 8001 := by omega
set_option maxHeartbeats 4000000 in
theorem large_v (g : Gr) : VCalls Try.prog 11 [gV g] [] 0 (Gives (.val (.bool (largeG g)))) := by
  have b1 : sum1 g ≤ 8001 := lgo_max _ _ (by omega)
  have b2 : sum2 g ≤ 8001 := lgo_max _ _ b1
  have b3 : sum3 g ≤ 8001 := lgo_max _ _ b2
  refine VCalls.enterD (n := 79) Try.func11 rfl rfl (by simp) rfl (fun cx hcx => ?_)
  (repeat (first | ((with_reducible refine VOps.same ?_); (first | (refine VOps.nil ?_; try dsimp only [VThen, VBlock]) | refine VOps.vp (by rfl) (by kernel_rfl) (by rfl) (VPure.assign rfl rfl) ?_ | refine VOps.box rfl rfl (by kernel_rfl) rfl rfl rfl rfl ?_)) | refine VCode.seq ?_ | refine VCode.region rfl ?_))
  refine VCode.thenTo ⟨[(3, .val (.int .i64 ((sum1 g : Nat) : Int))), (1, .ptr 0 0)], [(0, gO g)], 1⟩ ?_ ?_
  · (repeat (first | refine VCode.block ?_))
    refine VCode.loop (fun m st => ∃ k n : Nat, m = 8002 - n ∧ k ≤ n ∧ n ≤ 8001 ∧ lgo n ((tsz g).drop k) = sum1 g ∧ st = ⟨[(4, .val (.int .i64 (k : Int))), (3, .val (.int .i64 (n : Int))), (1, .ptr 0 0)], [(0, gO g)], 1⟩) (8002 - 0) ?_ ?_
    · (refine Less.mk (l := [0]) hcx ?ss ?hh rfl (by decide) rfl ⟨0, 0, rfl, by omega, by omega, rfl, rfl⟩; (case ss => repeat (first | exact SubS.nil | refine SubS.cons rfl rfl ?_ | refine SubS.cons (congrArg (fun z => some (V.val (Value.int IntKind.i64 z))) (by omega)) rfl ?_ | refine SubS.cons (congrArg (fun z => some (V.val (Value.bool z))) (by assumption)) rfl ?_)); (case hh => repeat (first | exact SubH.nil | refine SubH.cons rfl rfl rfl ?_)))
    rintro m st ⟨k, n, rfl, hkn, hn1, hl, rfl⟩
    by_cases hc1 : k < g.terms.length
    · by_cases hc2 : n ≤ 4000
      · obtain ⟨y, hy⟩ : ∃ y, g.terms[k]? = some y := ⟨_, List.getElem?_eq_getElem hc1⟩
        have hz : (tsz g)[k]? = some (y.size) := by unfold tsz; rw [List.getElem?_map, hy]; rfl
        rw [lgo_step hz hc2] at hl
        have hsb := sum_bound (m := y.size) hc2
        (repeat (first | ((with_reducible refine VOps.same ?_); (first | refine VOps.vp (by rfl) (by kernel_rfl) (by rfl) (VPure.move rfl rfl) ?_ | refine VOps.vp (by rfl) (by kernel_rfl) (by rfl) (VPure.len_map TI.und' rfl rfl) ?_ | refine VOps.vp (by rfl) (by kernel_rfl) (by rfl) (VPure.field_ptr rfl rfl rfl) ?_ | refine VOps.vv (by rfl) (by kernel_rfl) (by rfl) (VLoad.box1 rfl rfl rfl rfl (by rfl) (by decide)) ?_ | refine VOps.vp (by rfl) (by kernel_rfl) (by rfl) (VPure.lss rfl rfl rfl) ?_)) | refine VCode.seq ?_ | refine VCode.region rfl ?_))
        refine VOps.says (d := 12) (v := .val (.bool true)) rfl (by rw [decide_eq_true (by omega)]) ?_
        (repeat (first | ((with_reducible refine VOps.same ?_); (first | (refine VOps.nil ?_; try dsimp only [VThen, VBlock]) | refine VOps.vp (by rfl) (by kernel_rfl) (by rfl) (VPure.move rfl rfl) ?_ | refine VOps.vp (by rfl) (by kernel_rfl) (by rfl) (VPure.leq rfl rfl rfl) ?_ | refine VOps.vp (by rfl) (by kernel_rfl) (by rfl) (VPure.pick_t rfl rfl rfl) ?_))))
        refine VCode.cond_t rfl (decide_eq_true (by omega)) ?_
        (repeat (first | ((with_reducible refine VOps.same ?_); (first | refine VOps.vp (by rfl) (by kernel_rfl) (by rfl) (VPure.move rfl rfl) ?_ | refine VOps.vp (by rfl) (by kernel_rfl) (by rfl) (VPure.len_str TI.und' rfl rfl) ?_ | refine VOps.vp (by rfl) (by kernel_rfl) (by rfl) (VPure.idx_map rfl rfl rfl (by assumption)) ?_ | refine VOps.vp (by rfl) (by kernel_rfl) (by rfl) (VPure.field_ptr rfl rfl rfl) ?_ | refine VOps.vv (by rfl) (by kernel_rfl) (by rfl) (VLoad.el1 rfl rfl rfl (by rfl)) ?_ | refine VOps.vv (by rfl) (by kernel_rfl) (by rfl) (VLoad.box1 rfl rfl rfl rfl (by rfl) (by decide)) ?_)) | refine VCode.seq ?_ | refine VCode.region rfl ?_ | refine VCode.block ?_ | refine VCode.skip ?_))
        refine VOps.vp (by rfl) (by kernel_rfl) (by rfl) (VPure.min rfl rfl rfl) ?_
        refine VOps.says (d := 25) (v := .val (.int .i64 ((min (y.size) 4000 : Nat) : Int))) rfl (by rw [min_is]) ?_
        (repeat (first | ((with_reducible refine VOps.same ?_); (first | (refine VOps.nil ?_; try dsimp only [VThen, VBlock]) | refine VOps.vp (by rfl) (by kernel_rfl) (by rfl) (VPure.move rfl rfl) ?_ | refine VOps.vp (by rfl) (by kernel_rfl) (by rfl) (VPure.assign rfl rfl) ?_ | refine VOps.vp (by rfl) (by kernel_rfl) (by rfl) (VPure.addK rfl rfl rfl (by omega)) ?_)) | refine VCode.region rfl ?_))
        (refine Less.mk (l := [0]) hcx ?ss ?hh rfl (by decide) rfl ⟨_, ?_, k + 1, n + 1 + min (y.size) 4000, rfl, by omega, by omega, hl, rfl⟩; (case ss => repeat (first | exact SubS.nil | refine SubS.cons rfl rfl ?_ | refine SubS.cons (congrArg (fun z => some (V.val (Value.int IntKind.i64 z))) (by omega)) rfl ?_ | refine SubS.cons (congrArg (fun z => some (V.val (Value.bool z))) (by assumption)) rfl ?_)); (case hh => repeat (first | exact SubH.nil | refine SubH.cons rfl rfl rfl ?_)))
        omega
      · rw [lgo_stop (by omega)] at hl
        subst hl
        (repeat (first | ((with_reducible refine VOps.same ?_); (first | refine VOps.vp (by rfl) (by kernel_rfl) (by rfl) (VPure.move rfl rfl) ?_ | refine VOps.vp (by rfl) (by kernel_rfl) (by rfl) (VPure.len_map TI.und' rfl rfl) ?_ | refine VOps.vp (by rfl) (by kernel_rfl) (by rfl) (VPure.field_ptr rfl rfl rfl) ?_ | refine VOps.vv (by rfl) (by kernel_rfl) (by rfl) (VLoad.box1 rfl rfl rfl rfl (by rfl) (by decide)) ?_ | refine VOps.vp (by rfl) (by kernel_rfl) (by rfl) (VPure.lss rfl rfl rfl) ?_)) | refine VCode.seq ?_ | refine VCode.region rfl ?_))
        refine VOps.says (d := 12) (v := .val (.bool true)) rfl (by rw [decide_eq_true (by omega)]) ?_
        (repeat (first | ((with_reducible refine VOps.same ?_); (first | (refine VOps.nil ?_; try dsimp only [VThen, VBlock]) | refine VOps.vp (by rfl) (by kernel_rfl) (by rfl) (VPure.move rfl rfl) ?_ | refine VOps.vp (by rfl) (by kernel_rfl) (by rfl) (VPure.leq rfl rfl rfl) ?_ | refine VOps.vp (by rfl) (by kernel_rfl) (by rfl) (VPure.pick_t rfl rfl rfl) ?_))))
        refine VCode.cond_f rfl (decide_eq_false (by omega)) ?_
        (repeat (first | refine VCode.exit ?_))
        (refine Less.mk (l := [0]) hcx ?ss ?hh rfl (by decide) rfl rfl; (case ss => repeat (first | exact SubS.nil | refine SubS.cons rfl rfl ?_ | refine SubS.cons (congrArg (fun z => some (V.val (Value.int IntKind.i64 z))) (by omega)) rfl ?_ | refine SubS.cons (congrArg (fun z => some (V.val (Value.bool z))) (by assumption)) rfl ?_)); (case hh => repeat (first | exact SubH.nil | refine SubH.cons rfl rfl rfl ?_)))
    · rw [lgo_done (by unfold tsz; rw [List.length_map]; omega)] at hl
      subst hl
      (repeat (first | ((with_reducible refine VOps.same ?_); (first | refine VOps.vp (by rfl) (by kernel_rfl) (by rfl) (VPure.move rfl rfl) ?_ | refine VOps.vp (by rfl) (by kernel_rfl) (by rfl) (VPure.len_map TI.und' rfl rfl) ?_ | refine VOps.vp (by rfl) (by kernel_rfl) (by rfl) (VPure.field_ptr rfl rfl rfl) ?_ | refine VOps.vv (by rfl) (by kernel_rfl) (by rfl) (VLoad.box1 rfl rfl rfl rfl (by rfl) (by decide)) ?_ | refine VOps.vp (by rfl) (by kernel_rfl) (by rfl) (VPure.lss rfl rfl rfl) ?_)) | refine VCode.seq ?_ | refine VCode.region rfl ?_))
      refine VOps.says (d := 12) (v := .val (.bool false)) rfl (by rw [decide_eq_false (by omega)]) ?_
      (repeat (first | ((with_reducible refine VOps.same ?_); (first | (refine VOps.nil ?_; try dsimp only [VThen, VBlock]) | refine VOps.vp (by rfl) (by kernel_rfl) (by rfl) (VPure.pick_f rfl rfl rfl) ?_ | refine VOps.passv rfl (by kernel_rfl) rfl ?_))))
      refine VCode.cond_f rfl rfl ?_
      (repeat (first | refine VCode.exit ?_))
      (refine Less.mk (l := [0]) hcx ?ss ?hh rfl (by decide) rfl rfl; (case ss => repeat (first | exact SubS.nil | refine SubS.cons rfl rfl ?_ | refine SubS.cons (congrArg (fun z => some (V.val (Value.int IntKind.i64 z))) (by omega)) rfl ?_ | refine SubS.cons (congrArg (fun z => some (V.val (Value.bool z))) (by assumption)) rfl ?_)); (case hh => repeat (first | exact SubH.nil | refine SubH.cons rfl rfl rfl ?_)))
  (repeat (first | ((with_reducible refine VOps.same ?_); (first | (refine VOps.nil ?_; try dsimp only [VThen, VBlock]) | refine VOps.vp (by rfl) (by kernel_rfl) (by rfl) (VPure.assign rfl rfl) ?_)) | refine VCode.seq ?_ | refine VCode.region rfl ?_))
  refine VCode.thenTo ⟨[(3, .val (.int .i64 ((sum2 g : Nat) : Int))), (1, .ptr 0 0)], [(0, gO g)], 1⟩ ?_ ?_
  · (repeat (first | refine VCode.block ?_))
    refine VCode.loop (fun m st => ∃ k n : Nat, m = 8002 - n ∧ k ≤ n + 0 ∧ n ≤ 8001 ∧ lgo n ((nsz g).drop k) = sum2 g ∧ st = ⟨[(5, .val (.int .i64 (k : Int))), (3, .val (.int .i64 (n : Int))), (1, .ptr 0 0)], [(0, gO g)], 1⟩) (8002 - sum1 g) ?_ ?_
    · (refine Less.mk (l := [0]) hcx ?ss ?hh rfl (by decide) rfl ⟨0, sum1 g, rfl, by omega, b1, rfl, rfl⟩; (case ss => repeat (first | exact SubS.nil | refine SubS.cons rfl rfl ?_ | refine SubS.cons (congrArg (fun z => some (V.val (Value.int IntKind.i64 z))) (by omega)) rfl ?_ | refine SubS.cons (congrArg (fun z => some (V.val (Value.bool z))) (by assumption)) rfl ?_)); (case hh => repeat (first | exact SubH.nil | refine SubH.cons rfl rfl rfl ?_)))
    rintro m st ⟨k, n, rfl, hkn, hn1, hl, rfl⟩
    by_cases hc1 : k < g.names.length
    · by_cases hc2 : n ≤ 4000
      · obtain ⟨y, hy⟩ : ∃ y, g.names[k]? = some y := ⟨_, List.getElem?_eq_getElem hc1⟩
        have hz : (nsz g)[k]? = some (y.size) := by unfold nsz; rw [List.getElem?_map, hy]; rfl
        rw [lgo_step hz hc2] at hl
        have hsb := sum_bound (m := y.size) hc2
        (repeat (first | ((with_reducible refine VOps.same ?_); (first | refine VOps.vp (by rfl) (by kernel_rfl) (by rfl) (VPure.move rfl rfl) ?_ | refine VOps.vp (by rfl) (by kernel_rfl) (by rfl) (VPure.len_map TI.und' rfl rfl) ?_ | refine VOps.vp (by rfl) (by kernel_rfl) (by rfl) (VPure.field_ptr rfl rfl rfl) ?_ | refine VOps.vv (by rfl) (by kernel_rfl) (by rfl) (VLoad.box1 rfl rfl rfl rfl (by rfl) (by decide)) ?_ | refine VOps.vp (by rfl) (by kernel_rfl) (by rfl) (VPure.lss rfl rfl rfl) ?_)) | refine VCode.seq ?_ | refine VCode.region rfl ?_))
        refine VOps.says (d := 33) (v := .val (.bool true)) rfl (by rw [decide_eq_true (by omega)]) ?_
        (repeat (first | ((with_reducible refine VOps.same ?_); (first | (refine VOps.nil ?_; try dsimp only [VThen, VBlock]) | refine VOps.vp (by rfl) (by kernel_rfl) (by rfl) (VPure.move rfl rfl) ?_ | refine VOps.vp (by rfl) (by kernel_rfl) (by rfl) (VPure.leq rfl rfl rfl) ?_ | refine VOps.vp (by rfl) (by kernel_rfl) (by rfl) (VPure.pick_t rfl rfl rfl) ?_))))
        refine VCode.cond_t rfl (decide_eq_true (by omega)) ?_
        (repeat (first | ((with_reducible refine VOps.same ?_); (first | refine VOps.vp (by rfl) (by kernel_rfl) (by rfl) (VPure.move rfl rfl) ?_ | refine VOps.vp (by rfl) (by kernel_rfl) (by rfl) (VPure.len_str TI.und' rfl rfl) ?_ | refine VOps.vp (by rfl) (by kernel_rfl) (by rfl) (VPure.idx_map rfl rfl rfl (by assumption)) ?_ | refine VOps.vp (by rfl) (by kernel_rfl) (by rfl) (VPure.field_ptr rfl rfl rfl) ?_ | refine VOps.vv (by rfl) (by kernel_rfl) (by rfl) (VLoad.el1 rfl rfl rfl (by rfl)) ?_ | refine VOps.vv (by rfl) (by kernel_rfl) (by rfl) (VLoad.box1 rfl rfl rfl rfl (by rfl) (by decide)) ?_)) | refine VCode.seq ?_ | refine VCode.region rfl ?_ | refine VCode.block ?_ | refine VCode.skip ?_))
        refine VOps.vp (by rfl) (by kernel_rfl) (by rfl) (VPure.min rfl rfl rfl) ?_
        refine VOps.says (d := 46) (v := .val (.int .i64 ((min (y.size) 4000 : Nat) : Int))) rfl (by rw [min_is]) ?_
        (repeat (first | ((with_reducible refine VOps.same ?_); (first | (refine VOps.nil ?_; try dsimp only [VThen, VBlock]) | refine VOps.vp (by rfl) (by kernel_rfl) (by rfl) (VPure.move rfl rfl) ?_ | refine VOps.vp (by rfl) (by kernel_rfl) (by rfl) (VPure.assign rfl rfl) ?_ | refine VOps.vp (by rfl) (by kernel_rfl) (by rfl) (VPure.addK rfl rfl rfl (by omega)) ?_)) | refine VCode.region rfl ?_))
        (refine Less.mk (l := [0]) hcx ?ss ?hh rfl (by decide) rfl ⟨_, ?_, k + 1, n + 1 + min (y.size) 4000, rfl, by omega, by omega, hl, rfl⟩; (case ss => repeat (first | exact SubS.nil | refine SubS.cons rfl rfl ?_ | refine SubS.cons (congrArg (fun z => some (V.val (Value.int IntKind.i64 z))) (by omega)) rfl ?_ | refine SubS.cons (congrArg (fun z => some (V.val (Value.bool z))) (by assumption)) rfl ?_)); (case hh => repeat (first | exact SubH.nil | refine SubH.cons rfl rfl rfl ?_)))
        omega
      · rw [lgo_stop (by omega)] at hl
        subst hl
        (repeat (first | ((with_reducible refine VOps.same ?_); (first | refine VOps.vp (by rfl) (by kernel_rfl) (by rfl) (VPure.move rfl rfl) ?_ | refine VOps.vp (by rfl) (by kernel_rfl) (by rfl) (VPure.len_map TI.und' rfl rfl) ?_ | refine VOps.vp (by rfl) (by kernel_rfl) (by rfl) (VPure.field_ptr rfl rfl rfl) ?_ | refine VOps.vv (by rfl) (by kernel_rfl) (by rfl) (VLoad.box1 rfl rfl rfl rfl (by rfl) (by decide)) ?_ | refine VOps.vp (by rfl) (by kernel_rfl) (by rfl) (VPure.lss rfl rfl rfl) ?_)) | refine VCode.seq ?_ | refine VCode.region rfl ?_))
        refine VOps.says (d := 33) (v := .val (.bool true)) rfl (by rw [decide_eq_true (by omega)]) ?_
        (repeat (first | ((with_reducible refine VOps.same ?_); (first | (refine VOps.nil ?_; try dsimp only [VThen, VBlock]) | refine VOps.vp (by rfl) (by kernel_rfl) (by rfl) (VPure.move rfl rfl) ?_ | refine VOps.vp (by rfl) (by kernel_rfl) (by rfl) (VPure.leq rfl rfl rfl) ?_ | refine VOps.vp (by rfl) (by kernel_rfl) (by rfl) (VPure.pick_t rfl rfl rfl) ?_))))
        refine VCode.cond_f rfl (decide_eq_false (by omega)) ?_
        (repeat (first | refine VCode.exit ?_))
        (refine Less.mk (l := [0]) hcx ?ss ?hh rfl (by decide) rfl rfl; (case ss => repeat (first | exact SubS.nil | refine SubS.cons rfl rfl ?_ | refine SubS.cons (congrArg (fun z => some (V.val (Value.int IntKind.i64 z))) (by omega)) rfl ?_ | refine SubS.cons (congrArg (fun z => some (V.val (Value.bool z))) (by assumption)) rfl ?_)); (case hh => repeat (first | exact SubH.nil | refine SubH.cons rfl rfl rfl ?_)))
    · rw [lgo_done (by unfold nsz; rw [List.length_map]; omega)] at hl
      subst hl
      (repeat (first | ((with_reducible refine VOps.same ?_); (first | refine VOps.vp (by rfl) (by kernel_rfl) (by rfl) (VPure.move rfl rfl) ?_ | refine VOps.vp (by rfl) (by kernel_rfl) (by rfl) (VPure.len_map TI.und' rfl rfl) ?_ | refine VOps.vp (by rfl) (by kernel_rfl) (by rfl) (VPure.field_ptr rfl rfl rfl) ?_ | refine VOps.vv (by rfl) (by kernel_rfl) (by rfl) (VLoad.box1 rfl rfl rfl rfl (by rfl) (by decide)) ?_ | refine VOps.vp (by rfl) (by kernel_rfl) (by rfl) (VPure.lss rfl rfl rfl) ?_)) | refine VCode.seq ?_ | refine VCode.region rfl ?_))
      refine VOps.says (d := 33) (v := .val (.bool false)) rfl (by rw [decide_eq_false (by omega)]) ?_
      (repeat (first | ((with_reducible refine VOps.same ?_); (first | (refine VOps.nil ?_; try dsimp only [VThen, VBlock]) | refine VOps.vp (by rfl) (by kernel_rfl) (by rfl) (VPure.pick_f rfl rfl rfl) ?_ | refine VOps.passv rfl (by kernel_rfl) rfl ?_))))
      refine VCode.cond_f rfl rfl ?_
      (repeat (first | refine VCode.exit ?_))
      (refine Less.mk (l := [0]) hcx ?ss ?hh rfl (by decide) rfl rfl; (case ss => repeat (first | exact SubS.nil | refine SubS.cons rfl rfl ?_ | refine SubS.cons (congrArg (fun z => some (V.val (Value.int IntKind.i64 z))) (by omega)) rfl ?_ | refine SubS.cons (congrArg (fun z => some (V.val (Value.bool z))) (by assumption)) rfl ?_)); (case hh => repeat (first | exact SubH.nil | refine SubH.cons rfl rfl rfl ?_)))
  (repeat (first | ((with_reducible refine VOps.same ?_); (first | (refine VOps.nil ?_; try dsimp only [VThen, VBlock]) | refine VOps.vp (by rfl) (by kernel_rfl) (by rfl) (VPure.assign rfl rfl) ?_)) | refine VCode.seq ?_ | refine VCode.region rfl ?_))
  refine VCode.thenTo ⟨[(3, .val (.int .i64 ((sum3 g : Nat) : Int))), (1, .ptr 0 0)], [(0, gO g)], 1⟩ ?_ ?_
  · (repeat (first | refine VCode.block ?_))
    refine VCode.loop (fun m st => ∃ k n : Nat, m = 8002 - n ∧ k ≤ n ∧ n ≤ 8001 ∧ lgo n ((rsz g).drop k) = sum3 g ∧ st = ⟨[(6, .val (.int .i64 (k : Int))), (3, .val (.int .i64 (n : Int))), (1, .ptr 0 0)], [(0, gO g)], 1⟩) (8002 - sum2 g) ?_ ?_
    · (refine Less.mk (l := [0]) hcx ?ss ?hh rfl (by decide) rfl ⟨0, sum2 g, rfl, by omega, b2, rfl, rfl⟩; (case ss => repeat (first | exact SubS.nil | refine SubS.cons rfl rfl ?_ | refine SubS.cons (congrArg (fun z => some (V.val (Value.int IntKind.i64 z))) (by omega)) rfl ?_ | refine SubS.cons (congrArg (fun z => some (V.val (Value.bool z))) (by assumption)) rfl ?_)); (case hh => repeat (first | exact SubH.nil | refine SubH.cons rfl rfl rfl ?_)))
    rintro m st ⟨k, n, rfl, hkn, hn1, hl, rfl⟩
    by_cases hc1 : k < g.rules.length
    · by_cases hc2 : n ≤ 4000
      · obtain ⟨y, hy⟩ : ∃ y, g.rules[k]? = some y := ⟨_, List.getElem?_eq_getElem hc1⟩
        have hz : (rsz g)[k]? = some (y.right.length) := by unfold rsz; rw [List.getElem?_map, hy]; rfl
        rw [lgo_step hz hc2] at hl
        have hsb := sum_bound (m := y.right.length) hc2
        (repeat (first | ((with_reducible refine VOps.same ?_); (first | refine VOps.vp (by rfl) (by kernel_rfl) (by rfl) (VPure.move rfl rfl) ?_ | refine VOps.vp (by rfl) (by kernel_rfl) (by rfl) (VPure.len_map TI.und' rfl rfl) ?_ | refine VOps.vp (by rfl) (by kernel_rfl) (by rfl) (VPure.field_ptr rfl rfl rfl) ?_ | refine VOps.vv (by rfl) (by kernel_rfl) (by rfl) (VLoad.box1 rfl rfl rfl rfl (by rfl) (by decide)) ?_ | refine VOps.vp (by rfl) (by kernel_rfl) (by rfl) (VPure.lss rfl rfl rfl) ?_)) | refine VCode.seq ?_ | refine VCode.region rfl ?_))
        refine VOps.says (d := 54) (v := .val (.bool true)) rfl (by rw [decide_eq_true (by omega)]) ?_
        (repeat (first | ((with_reducible refine VOps.same ?_); (first | (refine VOps.nil ?_; try dsimp only [VThen, VBlock]) | refine VOps.vp (by rfl) (by kernel_rfl) (by rfl) (VPure.move rfl rfl) ?_ | refine VOps.vp (by rfl) (by kernel_rfl) (by rfl) (VPure.leq rfl rfl rfl) ?_ | refine VOps.vp (by rfl) (by kernel_rfl) (by rfl) (VPure.pick_t rfl rfl rfl) ?_))))
        refine VCode.cond_t rfl (decide_eq_true (by omega)) ?_
        (repeat (first | ((with_reducible refine VOps.same ?_); (first | refine VOps.vp (by rfl) (by kernel_rfl) (by rfl) (VPure.move rfl rfl) ?_ | refine VOps.vp (by rfl) (by kernel_rfl) (by rfl) (VPure.len_map TI.und' rfl rfl) ?_ | refine VOps.vp (by rfl) (by kernel_rfl) (by rfl) (VPure.idx_map rfl rfl rfl (by assumption)) ?_ | refine VOps.vp (by rfl) (by kernel_rfl) (by rfl) (VPure.field_el rfl rfl) ?_ | refine VOps.vp (by rfl) (by kernel_rfl) (by rfl) (VPure.field_ptr rfl rfl rfl) ?_ | refine VOps.vv (by rfl) (by kernel_rfl) (by rfl) (VLoad.el1 rfl rfl rfl (by rfl)) ?_ | refine VOps.vv (by rfl) (by kernel_rfl) (by rfl) (VLoad.box1 rfl rfl rfl rfl (by rfl) (by decide)) ?_)) | refine VCode.seq ?_ | refine VCode.region rfl ?_ | refine VCode.block ?_ | refine VCode.skip ?_))
        refine VOps.vp (by rfl) (by kernel_rfl) (by rfl) (VPure.min rfl rfl rfl) ?_
        refine VOps.says (d := 68) (v := .val (.int .i64 ((min (y.right.length) 4000 : Nat) : Int))) rfl (by rw [min_is]) ?_
        (repeat (first | ((with_reducible refine VOps.same ?_); (first | (refine VOps.nil ?_; try dsimp only [VThen, VBlock]) | refine VOps.vp (by rfl) (by kernel_rfl) (by rfl) (VPure.move rfl rfl) ?_ | refine VOps.vp (by rfl) (by kernel_rfl) (by rfl) (VPure.assign rfl rfl) ?_ | refine VOps.vp (by rfl) (by kernel_rfl) (by rfl) (VPure.addK rfl rfl rfl (by omega)) ?_)) | refine VCode.region rfl ?_))
        (refine Less.mk (l := [0]) hcx ?ss ?hh rfl (by decide) rfl ⟨_, ?_, k + 1, n + 1 + min (y.right.length) 4000, rfl, by omega, by omega, hl, rfl⟩; (case ss => repeat (first | exact SubS.nil | refine SubS.cons rfl rfl ?_ | refine SubS.cons (congrArg (fun z => some (V.val (Value.int IntKind.i64 z))) (by omega)) rfl ?_ | refine SubS.cons (congrArg (fun z => some (V.val (Value.bool z))) (by assumption)) rfl ?_)); (case hh => repeat (first | exact SubH.nil | refine SubH.cons rfl rfl rfl ?_)))
        omega
      · rw [lgo_stop (by omega)] at hl
        subst hl
        (repeat (first | ((with_reducible refine VOps.same ?_); (first | refine VOps.vp (by rfl) (by kernel_rfl) (by rfl) (VPure.move rfl rfl) ?_ | refine VOps.vp (by rfl) (by kernel_rfl) (by rfl) (VPure.len_map TI.und' rfl rfl) ?_ | refine VOps.vp (by rfl) (by kernel_rfl) (by rfl) (VPure.field_ptr rfl rfl rfl) ?_ | refine VOps.vv (by rfl) (by kernel_rfl) (by rfl) (VLoad.box1 rfl rfl rfl rfl (by rfl) (by decide)) ?_ | refine VOps.vp (by rfl) (by kernel_rfl) (by rfl) (VPure.lss rfl rfl rfl) ?_)) | refine VCode.seq ?_ | refine VCode.region rfl ?_))
        refine VOps.says (d := 54) (v := .val (.bool true)) rfl (by rw [decide_eq_true (by omega)]) ?_
        (repeat (first | ((with_reducible refine VOps.same ?_); (first | (refine VOps.nil ?_; try dsimp only [VThen, VBlock]) | refine VOps.vp (by rfl) (by kernel_rfl) (by rfl) (VPure.move rfl rfl) ?_ | refine VOps.vp (by rfl) (by kernel_rfl) (by rfl) (VPure.leq rfl rfl rfl) ?_ | refine VOps.vp (by rfl) (by kernel_rfl) (by rfl) (VPure.pick_t rfl rfl rfl) ?_))))
        refine VCode.cond_f rfl (decide_eq_false (by omega)) ?_
        (repeat (first | refine VCode.exit ?_))
        (refine Less.mk (l := [0]) hcx ?ss ?hh rfl (by decide) rfl rfl; (case ss => repeat (first | exact SubS.nil | refine SubS.cons rfl rfl ?_ | refine SubS.cons (congrArg (fun z => some (V.val (Value.int IntKind.i64 z))) (by omega)) rfl ?_ | refine SubS.cons (congrArg (fun z => some (V.val (Value.bool z))) (by assumption)) rfl ?_)); (case hh => repeat (first | exact SubH.nil | refine SubH.cons rfl rfl rfl ?_)))
    · rw [lgo_done (by unfold rsz; rw [List.length_map]; omega)] at hl
      subst hl
      (repeat (first | ((with_reducible refine VOps.same ?_); (first | refine VOps.vp (by rfl) (by kernel_rfl) (by rfl) (VPure.move rfl rfl) ?_ | refine VOps.vp (by rfl) (by kernel_rfl) (by rfl) (VPure.len_map TI.und' rfl rfl) ?_ | refine VOps.vp (by rfl) (by kernel_rfl) (by rfl) (VPure.field_ptr rfl rfl rfl) ?_ | refine VOps.vv (by rfl) (by kernel_rfl) (by rfl) (VLoad.box1 rfl rfl rfl rfl (by rfl) (by decide)) ?_ | refine VOps.vp (by rfl) (by kernel_rfl) (by rfl) (VPure.lss rfl rfl rfl) ?_)) | refine VCode.seq ?_ | refine VCode.region rfl ?_))
      refine VOps.says (d := 54) (v := .val (.bool false)) rfl (by rw [decide_eq_false (by omega)]) ?_
      (repeat (first | ((with_reducible refine VOps.same ?_); (first | (refine VOps.nil ?_; try dsimp only [VThen, VBlock]) | refine VOps.vp (by rfl) (by kernel_rfl) (by rfl) (VPure.pick_f rfl rfl rfl) ?_ | refine VOps.passv rfl (by kernel_rfl) rfl ?_))))
      refine VCode.cond_f rfl rfl ?_
      (repeat (first | refine VCode.exit ?_))
      (refine Less.mk (l := [0]) hcx ?ss ?hh rfl (by decide) rfl rfl; (case ss => repeat (first | exact SubS.nil | refine SubS.cons rfl rfl ?_ | refine SubS.cons (congrArg (fun z => some (V.val (Value.int IntKind.i64 z))) (by omega)) rfl ?_ | refine SubS.cons (congrArg (fun z => some (V.val (Value.bool z))) (by assumption)) rfl ?_)); (case hh => repeat (first | exact SubH.nil | refine SubH.cons rfl rfl rfl ?_)))
  (repeat (first | ((with_reducible refine VOps.same ?_); (first | refine VOps.vp (by rfl) (by kernel_rfl) (by rfl) (VPure.move rfl rfl) ?_ | refine VOps.vp (by rfl) (by kernel_rfl) (by rfl) (VPure.gtr rfl rfl rfl) ?_)) | refine VCode.seq ?_ | refine VCode.region rfl ?_))
  refine VOps.bool (d := 73) rfl (fun h1 => ?_) (fun h1 => ?_)
  · (repeat (first | ((with_reducible refine VOps.same ?_); (first | (refine VOps.nil ?_; try dsimp only [VThen, VBlock]) | refine VOps.vp (by rfl) (by kernel_rfl) (by rfl) (VPure.assign rfl rfl) ?_ | refine VOps.vp (by rfl) (by kernel_rfl) (by rfl) (VPure.pick_t rfl rfl rfl) ?_ | refine VOps.passv rfl (by kernel_rfl) rfl ?_))))
    refine VCode.retD rfl rfl (.tmp rfl .nil) ?_
    have : largeG g = true := by unfold largeG; rw [decide_eq_true (by have := of_decide_eq_true h1; omega)]; rfl
    rw [this]; rfl
  · (repeat (first | ((with_reducible refine VOps.same ?_); (first | (refine VOps.nil ?_; try dsimp only [VThen, VBlock]) | refine VOps.vp (by rfl) (by kernel_rfl) (by rfl) (VPure.assign rfl rfl) ?_ | refine VOps.vp (by rfl) (by kernel_rfl) (by rfl) (VPure.len_map TI.und' rfl rfl) ?_ | refine VOps.vp (by rfl) (by kernel_rfl) (by rfl) (VPure.field_ptr rfl rfl rfl) ?_ | refine VOps.vv (by rfl) (by kernel_rfl) (by rfl) (VLoad.box1 rfl rfl rfl rfl (by rfl) (by decide)) ?_ | refine VOps.vp (by rfl) (by kernel_rfl) (by rfl) (VPure.gtr rfl rfl rfl) ?_ | refine VOps.vp (by rfl) (by kernel_rfl) (by rfl) (VPure.pick_f rfl rfl rfl) ?_))))
    refine VCode.retD rfl rfl (.tmp rfl .nil) ?_
    have h1 := of_decide_eq_false h1
    have : largeG g = decide ((200 : Int) < (g.rules.length : Int)) := by
      unfold largeG
      rw [decide_eq_false (p := 4000 < sum3 g) (by omega), Bool.false_or, decide_eq_decide]; omega
    rw [this]; rfl
set_option maxHeartbeats 1000000 in
theorem bools_v (a b : List Bool) (ha : a.length ≤ 1000000) : VCalls Try.prog 16 [.sl 1 (a.map encB), .sl 1 (b.map encB)] [] 0 (Gives (.val (.bool (decide (a = b))))) := by
  refine VCalls.enter (n := 26) Try.func16 rfl rfl (by simp) (fun cx hcx => ?_)
  (repeat (first | ((with_reducible refine VOps.same ?_); (first | (refine VOps.nil ?_; try dsimp only [VThen, VBlock]) | refine VOps.vp (by rfl) (by kernel_rfl) (by rfl) (VPure.move rfl rfl) ?_ | refine VOps.vp (by rfl) (by kernel_rfl) (by rfl) (VPure.assign rfl rfl) ?_ | refine VOps.vp (by rfl) (by kernel_rfl) (by rfl) (VPure.len_map TI.und' rfl rfl) ?_ | refine VOps.vp (by rfl) (by kernel_rfl) (by rfl) (VPure.nei rfl rfl rfl) ?_)) | refine VCode.seq ?_ | refine VCode.region rfl ?_))
  refine VCode.cond rfl (fun hc => ?_) (fun hc => ?_)
  · (repeat (first | ((with_reducible refine VOps.same ?_); (first | (refine VOps.nil ?_; try dsimp only [VThen, VBlock]) | refine VOps.vp (by rfl) (by kernel_rfl) (by rfl) (VPure.assign rfl rfl) ?_)) | refine VCode.seq ?_ | refine VCode.region rfl ?_))
    refine VCode.give hcx rfl rfl rfl rfl rfl ?_
    simp only [Bool.not_eq_true', decide_eq_false_iff_not] at hc
    have : decide (a = b) = false := decide_eq_false (fun h => hc (by rw [h]))
    rw [this]
  · simp only [Bool.not_eq_false', decide_eq_true_eq] at hc
    have hlen : a.length = b.length := by omega
    (repeat (first | ((with_reducible refine VOps.same ?_); (first | (refine VOps.nil ?_; try dsimp only [VThen, VBlock]) | refine VOps.vp (by rfl) (by kernel_rfl) (by rfl) (VPure.assign rfl rfl) ?_)) | refine VCode.seq ?_ | refine VCode.region rfl ?_ | refine VCode.block ?_ | refine VCode.skip ?_))
    refine VCode.loop (fun m st => ∃ k : Nat, k ≤ a.length ∧ m = a.length - k ∧ a.take k = b.take k ∧ st = ⟨[(5, .val (.int .i64 (k : Int))), (0, .sl 1 (a.map encB)), (1, .sl 1 (b.map encB))], [], 0⟩) a.length ?_ ?_
    · (refine Less.mk (l := []) hcx ?ss ?hh rfl (by decide) rfl ⟨0, by omega, by omega, by simp, rfl⟩; (case ss => repeat (first | exact SubS.nil | refine SubS.cons rfl rfl ?_ | refine SubS.cons (congrArg (fun z => some (V.val (Value.int IntKind.i64 z))) (by omega)) rfl ?_ | refine SubS.cons (congrArg (fun z => some (V.val (Value.bool z))) (by assumption)) rfl ?_)); (case hh => repeat (first | exact SubH.nil | refine SubH.cons rfl rfl rfl ?_)))
    rintro m st ⟨k, hk, rfl, hs, rfl⟩
    cases ht : a[k]? with
    | some t =>
      have hlt : k < a.length := (List.getElem?_eq_some_iff.1 ht).1
      obtain ⟨u, hu⟩ : ∃ u, b[k]? = some u := ⟨_, List.getElem?_eq_getElem (by omega)⟩
      have hne : (!(t == u)) = !decide (t = u) := by cases t <;> cases u <;> rfl
      (repeat (first | ((with_reducible refine VOps.same ?_); (first | (refine VOps.nil ?_; try dsimp only [VThen, VBlock]) | refine VOps.vp (by rfl) (by kernel_rfl) (by rfl) (VPure.move rfl rfl) ?_ | refine VOps.vp (by rfl) (by kernel_rfl) (by rfl) (VPure.len_map TI.und' rfl rfl) ?_ | refine VOps.vp (by rfl) (by kernel_rfl) (by rfl) (VPure.lss rfl rfl rfl) ?_)) | refine VCode.seq ?_ | refine VCode.region rfl ?_))
      refine VCode.cond_t rfl (decide_eq_true (by omega)) ?_
      (repeat (first | ((with_reducible refine VOps.same ?_); (first | (refine VOps.nil ?_; try dsimp only [VThen, VBlock]) | refine VOps.vp (by rfl) (by kernel_rfl) (by rfl) (VPure.move rfl rfl) ?_ | refine VOps.vp (by rfl) (by kernel_rfl) (by rfl) (VPure.idx_map rfl rfl rfl (by assumption)) ?_ | refine VOps.vv (by rfl) (by kernel_rfl) (by rfl) (VLoad.el1 rfl rfl rfl (by rfl)) ?_ | refine VOps.vp (by rfl) (by kernel_rfl) (by rfl) (VPure.neb TI.und' rfl rfl rfl) ?_)) | refine VCode.seq ?_ | refine VCode.draw [] rfl ?_ | refine VCode.block ?_ | refine VCode.skip ?_))
      refine VCode.cond rfl (fun hb => ?_) (fun hb => ?_)
      · (repeat (first | ((with_reducible refine VOps.same ?_); (first | (refine VOps.nil ?_; try dsimp only [VThen, VBlock]) | refine VOps.vp (by rfl) (by kernel_rfl) (by rfl) (VPure.assign rfl rfl) ?_)) | refine VCode.seq ?_ | refine VCode.region rfl ?_))
        refine VCode.give hcx rfl rfl rfl rfl rfl ?_
        have hb := hne.symm.trans hb
        have hne : t ≠ u := by simpa using hb
        have : decide (a = b) = false := decide_eq_false (fun e => hne (by subst e; rw [ht] at hu; exact Option.some.inj hu))
        rw [this]
      · have hb := hne.symm.trans hb
        (repeat (first | ((with_reducible refine VOps.same ?_); (first | (refine VOps.nil ?_; try dsimp only [VThen, VBlock]) | refine VOps.vp (by rfl) (by kernel_rfl) (by rfl) (VPure.move rfl rfl) ?_ | refine VOps.vp (by rfl) (by kernel_rfl) (by rfl) (VPure.assign rfl rfl) ?_ | refine VOps.vp (by rfl) (by kernel_rfl) (by rfl) (VPure.addK rfl rfl rfl (by omega)) ?_)) | refine VCode.region rfl ?_ | refine VCode.skip ?_))
        (refine Less.mk (l := []) hcx ?ss ?hh rfl (by decide) rfl ⟨_, ?_, k + 1, by omega, rfl, take_eq hs ht hu (by simpa using hb), rfl⟩; (case ss => repeat (first | exact SubS.nil | refine SubS.cons rfl rfl ?_ | refine SubS.cons (congrArg (fun z => some (V.val (Value.int IntKind.i64 z))) (by omega)) rfl ?_ | refine SubS.cons (congrArg (fun z => some (V.val (Value.bool z))) (by assumption)) rfl ?_)); (case hh => repeat (first | exact SubH.nil | refine SubH.cons rfl rfl rfl ?_)))
        omega
    | none =>
      have hge : a.length ≤ k := List.getElem?_eq_none_iff.1 ht
      rw [List.take_of_length_le hge, List.take_of_length_le (by omega)] at hs
      (repeat (first | ((with_reducible refine VOps.same ?_); (first | (refine VOps.nil ?_; try dsimp only [VThen, VBlock]) | refine VOps.vp (by rfl) (by kernel_rfl) (by rfl) (VPure.move rfl rfl) ?_ | refine VOps.vp (by rfl) (by kernel_rfl) (by rfl) (VPure.len_map TI.und' rfl rfl) ?_ | refine VOps.vp (by rfl) (by kernel_rfl) (by rfl) (VPure.lss rfl rfl rfl) ?_)) | refine VCode.seq ?_ | refine VCode.region rfl ?_))
      refine VCode.cond_f rfl (decide_eq_false (by omega)) ?_
      (repeat (first | ((with_reducible refine VOps.same ?_); (first | (refine VOps.nil ?_; try dsimp only [VThen, VBlock]) | refine VOps.vp (by rfl) (by kernel_rfl) (by rfl) (VPure.assign rfl rfl) ?_)) | refine VCode.seq ?_ | refine VCode.region rfl ?_ | refine VCode.exit ?_))
      refine VCode.give hcx rfl rfl rfl rfl rfl ?_
      rw [decide_eq_true hs]
end Go.Proofs.Ytfjfbapiheehaaa.V
end
section
-- YtfjfbapiheehaaaVC
set_option linter.unusedVariables false
set_option linter.unusedSimpArgs false
namespace Go.Proofs.Ytfjfbapiheehaaa.V
open Go Go.RowKit Go.Proofs.Ytfjfbapiheehaaa.P Go.Proofs.Ytfjfbapiheehaaa.DG
def eachC (g : Gr) (w : List Spot) (so : Pl → Bool) : List Bool := (List.range g.names.length).map (fun a => (plOf ((restC g w).map (stepOf g)) g.names.length a).any fun p => decide (p.1 = a) && so p)
theorem each_C {g : Gr} (h : GoodG g) (w : List Spot) (so : Pl → Bool) : eachOf g w so = eachC g w so := by
  unfold eachOf
  rw [if_pos h]
  unfold eachC stepsOf
  rw [rest_C h]
def etext : ByteArray := ⟨#[83, 32, 61, 32, 39, 40, 39, 32, 83, 32, 39, 41, 39, 32, 124, 32, 65, 32, 59, 32, 65, 32, 61, 32, 65, 32, 39, 97, 39, 32, 124, 32, 39, 98, 39, 32, 65, 32, 124, 32, 66, 32, 59, 32, 66, 32, 61, 32, 66, 32, 39, 99, 39, 32, 124, 32, 59]⟩
def etoks : List Tok := [⟨1, ⟨#[83]⟩, 0⟩, ⟨3, ⟨#[61]⟩, 2⟩, ⟨2, ⟨#[40]⟩, 4⟩, ⟨1, ⟨#[83]⟩, 8⟩, ⟨2, ⟨#[41]⟩, 10⟩, ⟨4, ⟨#[124]⟩, 14⟩, ⟨1, ⟨#[65]⟩, 16⟩, ⟨5, ⟨#[59]⟩, 18⟩, ⟨1, ⟨#[65]⟩, 20⟩, ⟨3, ⟨#[61]⟩, 22⟩, ⟨1, ⟨#[65]⟩, 24⟩, ⟨2, ⟨#[97]⟩, 26⟩, ⟨4, ⟨#[124]⟩, 30⟩, ⟨2, ⟨#[98]⟩, 32⟩, ⟨1, ⟨#[65]⟩, 36⟩, ⟨4, ⟨#[124]⟩, 38⟩, ⟨1, ⟨#[66]⟩, 40⟩, ⟨5, ⟨#[59]⟩, 42⟩, ⟨1, ⟨#[66]⟩, 44⟩, ⟨3, ⟨#[61]⟩, 46⟩, ⟨1, ⟨#[66]⟩, 48⟩, ⟨2, ⟨#[99]⟩, 50⟩, ⟨4, ⟨#[124]⟩, 54⟩, ⟨5, ⟨#[59]⟩, 56⟩]
def ealts : List Alt := [⟨⟨1, ⟨#[83]⟩, 0⟩, [⟨2, ⟨#[40]⟩, 4⟩, ⟨1, ⟨#[83]⟩, 8⟩, ⟨2, ⟨#[41]⟩, 10⟩]⟩, ⟨⟨1, ⟨#[83]⟩, 0⟩, [⟨1, ⟨#[65]⟩, 16⟩]⟩, ⟨⟨1, ⟨#[65]⟩, 20⟩, [⟨1, ⟨#[65]⟩, 24⟩, ⟨2, ⟨#[97]⟩, 26⟩]⟩, ⟨⟨1, ⟨#[65]⟩, 20⟩, [⟨2, ⟨#[98]⟩, 32⟩, ⟨1, ⟨#[65]⟩, 36⟩]⟩, ⟨⟨1, ⟨#[65]⟩, 20⟩, [⟨1, ⟨#[66]⟩, 40⟩]⟩, ⟨⟨1, ⟨#[66]⟩, 44⟩, [⟨1, ⟨#[66]⟩, 48⟩, ⟨2, ⟨#[99]⟩, 50⟩]⟩, ⟨⟨1, ⟨#[66]⟩, 44⟩, []⟩]
def eg : Gr := ⟨[⟨#[40]⟩, ⟨#[41]⟩, ⟨#[97]⟩, ⟨#[98]⟩, ⟨#[99]⟩], [⟨#[83]⟩, ⟨#[65]⟩, ⟨#[66]⟩], [⟨5, [0, 5, 1]⟩, ⟨5, [6]⟩, ⟨6, [6, 2]⟩, ⟨6, [3, 6]⟩, ⟨6, [7]⟩, ⟨7, [7, 4]⟩, ⟨7, []⟩]⟩
theorem e_lex : lex_Tokens.f etext = some (etoks, 0, 0) := by kernel_rfl
theorem e_alts : read_Alts.f etoks 57 = some (ealts, 0, 0) := by kernel_rfl
theorem e_g : ofG ealts = eg := by kernel_rfl
theorem of_e : VCalls Try.prog 34 [.val (.string etext)] [] 0 (Gives (.tup [gV eg, fV 0 0])) :=
  of_at (by decide +kernel) e_lex (by decide +kernel) e_alts (by decide +kernel) (by kernel_rfl) (by decide +kernel) (by decide +kernel) (by kernel_rfl) e_g
theorem e_good : GoodG eg := good_of (by kernel_rfl)
theorem e_sized : Sized eg := (small_sized (show largeG eg = false by kernel_rfl)).1
theorem e_left : eachOf eg [] soL = [true, true, false] := by rw [each_C e_good]; kernel_rfl
theorem e_right : eachOf eg [] soR = [true, true, true] := by rw [each_C e_good]; kernel_rfl
theorem e_both : eachOf eg [] soB = [true, true, false] := by rw [each_C e_good]; kernel_rfl
theorem e_both2 : eachOf eg [(0, 1)] soB = [false, true, false] := by rw [each_C e_good]; kernel_rfl
set_option maxHeartbeats 8000000 in
theorem ewakes_v : VCalls Try.prog 29 [] [] 0 (Gives (.val (.bool true))) := by
  refine VCalls.enterD (n := 44) Try.func29 rfl rfl (by simp) rfl (fun cx hcx => ?_)
  (repeat (first | ((with_reducible refine VOps.same ?_); (first | (refine VOps.nil ?_; try dsimp only [VThen, VBlock]) | refine VOps.vp (by rfl) (by kernel_rfl) (by rfl) (VPure.assign rfl rfl) ?_)) | refine VCode.seq ?_ | refine VCode.region rfl ?_))
  refine VOps.gives rfl Try.func34 rfl (by kernel_rfl) rfl rfl rfl rfl rfl rfl rfl rfl (of_e) ?_
  (repeat (first | ((with_reducible refine VOps.same ?_); (first | (refine VOps.nil ?_; try dsimp only [VThen, VBlock]) | refine VOps.vp (by rfl) (by kernel_rfl) (by rfl) (VPure.move rfl rfl) ?_ | refine VOps.vp (by rfl) (by kernel_rfl) (by rfl) (VPure.extract rfl rfl rfl) ?_ | refine VOps.alloc rfl rfl (by kernel_rfl) rfl (by kernel_rfl) rfl ?_ | refine VOps.store rfl rfl (by kernel_rfl) rfl rfl rfl rfl rfl rfl (Nat.le_of_ble_eq_true (by rfl)) rfl ?_)) | refine VCode.seq ?_))
  refine VCode.thenTo ⟨[(3, .sl 1 ([true, true, false].map encB)), (4, .sl 1 ([true, true, true].map encB)), (5, .sl 1 ([true, true, false].map encB)), (1, .ptr 0 0), (2, .ptr 1 0)], [(0, gO eg), (1, .cells 53 [.val (.int .i64 0), .val (.int .i64 0)])], 2⟩ ?_ ?_
  · refine VCode.drawAny [] (by kernel_rfl) rfl ?_
    refine VAny.loadI (i := 0) rfl rfl (by kernel_rfl) rfl (VLoad.boxA rfl rfl rfl (by rfl) (Nat.le_of_ble_eq_true (by rfl)) (by decide)) ?_
    refine VAny.loadI (i := 2) rfl rfl (by kernel_rfl) rfl (VLoad.boxA rfl rfl rfl (by rfl) (Nat.le_of_ble_eq_true (by rfl)) (by decide)) ?_
    refine VAny.loadI (i := 4) rfl rfl (by kernel_rfl) rfl (VLoad.boxA rfl rfl rfl (by rfl) (Nat.le_of_ble_eq_true (by rfl)) (by decide)) ?_
    refine VAny.movesI (is := [1]) (by kernel_rfl) (by simp) rfl (all1 ?_)
    · refine VMv.oo rfl rfl rfl rfl (VOp.gives rfl Try.func30 rfl rfl rfl rfl rfl rfl ((by have := nil2 (left_v eg [] e_sized (by decide)); rw [e_left] at this; exact this)) rfl) ?_
      refine VAny.movesI (is := [3]) (by kernel_rfl) (by simp) rfl (all1 ?_)
      · refine VMv.oo rfl rfl rfl rfl (VOp.gives rfl Try.func32 rfl rfl rfl rfl rfl rfl ((by have := nil2 (right_v eg [] e_sized (by decide)); rw [e_right] at this; exact this)) rfl) ?_
        refine VAny.movesI (is := [5]) (by kernel_rfl) (by simp) rfl (all1 ?_)
        · refine VMv.oo rfl rfl rfl rfl (VOp.gives rfl Try.func33 rfl rfl rfl rfl rfl rfl ((by have := nil2 (both_v eg [] e_sized (by decide)); rw [e_both] at this; exact this)) rfl) ?_
          refine VAny.pureI (i := 6) rfl rfl (by kernel_rfl) rfl (VPure.assign rfl rfl) ?_
          refine VAny.pureI (i := 7) rfl rfl (by kernel_rfl) rfl (VPure.assign rfl rfl) ?_
          refine VAny.pureI (i := 8) rfl rfl (by kernel_rfl) rfl (VPure.assign rfl rfl) ?_
          refine VAny.done ?_
          (refine Less.mk (l := [0, 1]) hcx ?ss ?hh rfl (by decide) rfl rfl; (case ss => repeat (first | exact SubS.nil | refine SubS.cons rfl rfl ?_ | refine SubS.cons (congrArg (fun z => some (V.val (Value.int IntKind.i64 z))) (by omega)) rfl ?_ | refine SubS.cons (congrArg (fun z => some (V.val (Value.bool z))) (by assumption)) rfl ?_)); (case hh => repeat (first | exact SubH.nil | refine SubH.cons rfl rfl rfl ?_)))
  (repeat (first | ((with_reducible refine VOps.same ?_); (first | refine VOps.vv (by rfl) (by kernel_rfl) (by rfl) (VLoad.boxA rfl rfl rfl (by rfl) (Nat.le_of_ble_eq_true (by rfl)) (by decide)) ?_ | refine VOps.vp (by rfl) (by kernel_rfl) (by rfl) (VPure.buildC rfl (by kernel_rfl) rfl (by rfl)) ?_ | refine VOps.one rfl rfl (by kernel_rfl) rfl (by rfl) (by decide) (by decide) rfl (by rfl) (by rfl) ?_)) | refine VCode.seq ?_ | refine VCode.region rfl ?_))
  refine VOps.freeze (id := 2) rfl ?_
  refine VOps.gives rfl Try.func33 rfl (by kernel_rfl) rfl rfl rfl rfl rfl rfl rfl rfl (by have := both_v eg [(0, 1)] e_sized (by decide); rw [e_both2] at this; exact this) ?_
  (repeat (first | ((with_reducible refine VOps.same ?_); (first | (refine VOps.nil ?_; try dsimp only [VThen, VBlock]) | refine VOps.vp (by rfl) (by kernel_rfl) (by rfl) (VPure.move rfl rfl) ?_ | refine VOps.vp (by rfl) (by kernel_rfl) (by rfl) (VPure.assign rfl rfl) ?_ | refine VOps.vp (by rfl) (by kernel_rfl) (by rfl) (VPure.field_ptr rfl rfl rfl) ?_ | refine VOps.vv (by rfl) (by kernel_rfl) (by rfl) (VLoad.box1 rfl rfl rfl rfl (by rfl) (by decide)) ?_ | refine VOps.vp (by rfl) (by kernel_rfl) (by rfl) (VPure.eqi rfl rfl rfl) ?_)) | refine VCode.seq ?_ | refine VCode.region rfl ?_))
  refine VOps.lit (rows := [encB true, encB true, encB false]) rfl rfl (by kernel_rfl) rfl (by kernel_rfl) (by rfl) (by decide) (by decide) rfl (by rfl) (by rfl) (by rfl) (by rfl) ?_
  refine VOps.pure rfl Try.func16 rfl (by kernel_rfl) rfl rfl rfl rfl rfl rfl rfl (bools_v [true, true, false] [true, true, false] (by decide)) ?_
  (repeat (first | ((with_reducible refine VOps.same ?_); (first | refine VOps.vp (by rfl) (by kernel_rfl) (by rfl) (VPure.move rfl rfl) ?_ | refine VOps.vp (by rfl) (by kernel_rfl) (by rfl) (VPure.pick_t rfl rfl rfl) ?_))))
  refine VOps.lit (rows := [encB true, encB true, encB true]) rfl rfl (by kernel_rfl) rfl (by kernel_rfl) (by rfl) (by decide) (by decide) rfl (by rfl) (by rfl) (by rfl) (by rfl) ?_
  refine VOps.pure rfl Try.func16 rfl (by kernel_rfl) rfl rfl rfl rfl rfl rfl rfl (bools_v [true, true, true] [true, true, true] (by decide)) ?_
  (repeat (first | ((with_reducible refine VOps.same ?_); (first | refine VOps.vp (by rfl) (by kernel_rfl) (by rfl) (VPure.move rfl rfl) ?_ | refine VOps.vp (by rfl) (by kernel_rfl) (by rfl) (VPure.pick_t rfl rfl rfl) ?_))))
  refine VOps.lit (rows := [encB true, encB true, encB false]) rfl rfl (by kernel_rfl) rfl (by kernel_rfl) (by rfl) (by decide) (by decide) rfl (by rfl) (by rfl) (by rfl) (by rfl) ?_
  refine VOps.pure rfl Try.func16 rfl (by kernel_rfl) rfl rfl rfl rfl rfl rfl rfl (bools_v [true, true, false] [true, true, false] (by decide)) ?_
  (repeat (first | ((with_reducible refine VOps.same ?_); (first | refine VOps.vp (by rfl) (by kernel_rfl) (by rfl) (VPure.move rfl rfl) ?_ | refine VOps.vp (by rfl) (by kernel_rfl) (by rfl) (VPure.pick_t rfl rfl rfl) ?_))))
  refine VOps.lit (rows := [encB false, encB true, encB false]) rfl rfl (by kernel_rfl) rfl (by kernel_rfl) (by rfl) (by decide) (by decide) rfl (by rfl) (by rfl) (by rfl) (by rfl) ?_
  refine VOps.pure rfl Try.func16 rfl (by kernel_rfl) rfl rfl rfl rfl rfl rfl rfl (bools_v [false, true, false] [false, true, false] (by decide)) ?_
  (repeat (first | ((with_reducible refine VOps.same ?_); (first | (refine VOps.nil ?_; try dsimp only [VThen, VBlock]) | refine VOps.vp (by rfl) (by kernel_rfl) (by rfl) (VPure.assign rfl rfl) ?_ | refine VOps.vp (by rfl) (by kernel_rfl) (by rfl) (VPure.pick_t rfl rfl rfl) ?_))))
  refine VCode.retD rfl rfl (.tmp rfl .nil) ?_
  rfl
end Go.Proofs.Ytfjfbapiheehaaa.V
end
section
-- YtfjfbapiheehaaaVC
set_option linter.unusedVariables false
set_option linter.unusedSimpArgs false
namespace Go.Proofs.Ytfjfbapiheehaaa.V
open Go Go.RowKit Go.Proofs.Ytfjfbapiheehaaa.P Go.Proofs.Ytfjfbapiheehaaa.DG
end Go.Proofs.Ytfjfbapiheehaaa.V
end
section
set_option linter.unusedVariables false
set_option linter.unusedSimpArgs false
namespace Go.Proofs.Ytfjfbapiheehaaa.V
open Go Go.RowKit Go.Proofs.Ytfjfbapiheehaaa.DG
section
variable {H : Type} {enc : TypeId × Value → H} {w : World} {spare : Nat → Bool} {held : Bool}
def goodSs (l : List ByteArray) : Prop := (∀ a ∈ l, a.size ≤ reachBytes) ∧ l.length * 16 ≤ reachBytes
theorem open_strs : OpensD enc Try.prog w 0 spare held (fun l : List ByteArray => [.sl 1 (l.map encS)]) 22 goodSs :=
  opensD_slice TI.und' (by kernel_rfl) (by kernel_rfl) (by kernel_rfl) (by decide) (opensD_string TI.und' (by kernel_rfl))
theorem open_i64 : OpensD enc Try.prog w 0 spare held (fun n : Int => [.val (.int .i64 n)]) 3 (fun n => (Lit.int .i64 n).wf = true) := opensD_int TI.und' (by kernel_rfl)
def goodIs (l : List Int) : Prop := (∀ a ∈ l, (Lit.int .i64 a).wf = true) ∧ l.length * 8 ≤ reachBytes
theorem open_ints : OpensD enc Try.prog w 0 spare held (fun l : List Int => [.sl 1 (l.map encI)]) 37 goodIs :=
  opensD_slice TI.und' (by kernel_rfl) (by kernel_rfl) (by kernel_rfl) (by decide) open_i64
def goodRu (r : Ru) : Prop := (Lit.int .i64 r.left).wf = true ∧ goodIs r.right ∧ True
theorem open_rule : OpensD enc Try.prog w 0 spare held encR 46 goodRu :=
  opensD_struct (good := fun p : Int × List Int × Unit => (Lit.int .i64 p.1).wf = true ∧ goodIs p.2.1 ∧ True) (f := fun p : Int × List Int × Unit => [.val (.int .i64 p.1)] ++ ([.sl 1 (p.2.1.map encI)] ++ [])) (g := fun r : Ru => (r.left, r.right, ())) (fun p => ⟨p.1, p.2.1⟩) (fun _ => rfl) (ti46).und (by kernel_rfl)
    (opensF_cons (m := 1) (f := fun n : Int => [.val (.int .i64 n)]) (f' := fun p : List Int × Unit => [.sl 1 (p.1.map encI)] ++ []) (good := fun n : Int => (Lit.int .i64 n).wf = true) (good' := fun p : List Int × Unit => goodIs p.1 ∧ True) rfl (by kernel_rfl) open_i64 (opensF_cons (m := 1) (f := fun l : List Int => [.sl 1 (l.map encI)]) (f' := fun _ : Unit => []) (good := goodIs) (good' := fun _ => True) rfl (by kernel_rfl) open_ints opensF_nil))
def goodRs (l : List Ru) : Prop := (∀ a ∈ l, goodRu a) ∧ l.length * 32 ≤ reachBytes
theorem open_rules : OpensD enc Try.prog w 0 spare held (fun l : List Ru => [.sl 2 (l.map encR)]) 23 goodRs :=
  opensD_slice TI.und' (by kernel_rfl) (by kernel_rfl) (by kernel_rfl) (by decide) open_rule
def encG (g : Gr) : List D := [.sl 1 (g.terms.map encS), .sl 1 (g.names.map encS), .sl 2 (g.rules.map encR)]
def goodGr (g : Gr) : Prop := goodSs g.terms ∧ goodSs g.names ∧ goodRs g.rules ∧ True
theorem open_gr : OpensD enc Try.prog w 0 spare held encG 25 goodGr :=
  opensD_struct (good := fun p : List ByteArray × List ByteArray × List Ru × Unit => goodSs p.1 ∧ goodSs p.2.1 ∧ goodRs p.2.2.1 ∧ True) (f := fun p : List ByteArray × List ByteArray × List Ru × Unit => [.sl 1 (p.1.map encS)] ++ ([.sl 1 (p.2.1.map encS)] ++ ([.sl 2 (p.2.2.1.map encR)] ++ []))) (g := fun g : Gr => (g.terms, g.names, g.rules, ())) (fun p => ⟨p.1, p.2.1, p.2.2.1⟩) (fun _ => rfl) (ti25).und (by kernel_rfl)
    (opensF_cons (m := 1) (f := fun l : List ByteArray => [.sl 1 (l.map encS)]) (f' := fun p : List ByteArray × List Ru × Unit => [.sl 1 (p.1.map encS)] ++ ([.sl 2 (p.2.1.map encR)] ++ [])) (good := goodSs) (good' := fun p : List ByteArray × List Ru × Unit => goodSs p.1 ∧ goodRs p.2.1 ∧ True) rfl (by kernel_rfl) open_strs
      (opensF_cons (m := 1) (f := fun l : List ByteArray => [.sl 1 (l.map encS)]) (f' := fun p : List Ru × Unit => [.sl 2 (p.1.map encR)] ++ []) (good := goodSs) (good' := fun p : List Ru × Unit => goodRs p.1 ∧ True) rfl (by kernel_rfl) open_strs
        (opensF_cons (m := 1) (f := fun l : List Ru => [.sl 2 (l.map encR)]) (f' := fun _ : Unit => []) (good := goodRs) (good' := fun _ => True) rfl (by kernel_rfl) open_rules opensF_nil)))
def goodSp (e : Spot) : Prop := (Lit.int .i64 e.1).wf = true ∧ (Lit.int .i64 e.2).wf = true ∧ True
theorem open_spot : OpensD enc Try.prog w 0 spare held encP 44 goodSp :=
  opensD_struct (good := fun p : Int × Int × Unit => (Lit.int .i64 p.1).wf = true ∧ (Lit.int .i64 p.2.1).wf = true ∧ True) (f := fun p : Int × Int × Unit => [.val (.int .i64 p.1)] ++ ([.val (.int .i64 p.2.1)] ++ [])) (g := fun e : Spot => (e.1, e.2, ())) (fun p => (p.1, p.2.1)) (fun _ => rfl) (ti44).und (by kernel_rfl)
    (opensF_cons (m := 1) (f := fun n : Int => [.val (.int .i64 n)]) (f' := fun p : Int × Unit => [.val (.int .i64 p.1)] ++ []) (good := fun n : Int => (Lit.int .i64 n).wf = true) (good' := fun p : Int × Unit => (Lit.int .i64 p.1).wf = true ∧ True) rfl (by kernel_rfl) open_i64 (opensF_cons (m := 1) (f := fun n : Int => [.val (.int .i64 n)]) (f' := fun _ : Unit => []) (good := fun n : Int => (Lit.int .i64 n).wf = true) (good' := fun _ => True) rfl (by kernel_rfl) open_i64 opensF_nil))
def goodSps (l : List Spot) : Prop := (∀ a ∈ l, goodSp a) ∧ l.length * 16 ≤ reachBytes
theorem open_spots : OpensD enc Try.prog w 0 spare held (fun l : List Spot => [.sl 2 (l.map encP)]) 26 goodSps :=
  opensD_slice TI.und' (by kernel_rfl) (by kernel_rfl) (by kernel_rfl) (by decide) open_spot
end
theorem both_iff {g : Gr} (hG : GoodG g) (w : List Spot) {a b : Nat} (ha : a < g.names.length) (hb : b < g.names.length) : bothB (onOf g w) a b = true ↔ Hang g w a b ∧ Hang g w b a := by
  unfold bothB
  rw [Bool.and_eq_true, cell_on hG w ha, cell_on hG w hb]
theorem comp_is (g : Gr) (w : List Spot) (i : Nat) : IsFirst (bothB (onOf g w) i) i (compOf g w i) := firstOf_is _ _
theorem comp_both {g : Gr} (hG : GoodG g) (w : List Spot) {i : Nat} (hi : i < g.names.length) : compOf g w i = i ∨ (Hang g w i (compOf g w i) ∧ Hang g w (compOf g w i) i) := by
  have h := comp_is g w i
  rcases Nat.lt_or_ge (compOf g w i) i with hlt | hge
  · exact .inr ((both_iff hG w hi (by omega)).1 (h.is hlt))
  · exact .inl (by have := h.le; omega)
/-- Two are of one component. -/
def Same (g : Gr) (w : List Spot) (a b : Nat) : Prop := a = b ∨ (Hang g w a b ∧ Hang g w b a)
theorem Same.symm {g : Gr} {w : List Spot} {a b : Nat} (h : Same g w a b) : Same g w b a := by
  rcases h with h | h
  · exact .inl h.symm
  · exact .inr ⟨h.2, h.1⟩
theorem Same.trans {g : Gr} {w : List Spot} {a b c : Nat} (h : Same g w a b) (k : Same g w b c) : Same g w a c := by
  rcases h with rfl | h
  · exact k
  · rcases k with rfl | k
    · exact .inr h
    · exact .inr ⟨h.1.trans k.1, k.2.trans h.2⟩
theorem comp_min {g : Gr} (hG : GoodG g) (w : List Spot) {i b : Nat} (hi : i < g.names.length) (hs : Same g w i b) : compOf g w i ≤ b := by
  have h := comp_is g w i
  rcases Nat.lt_or_ge b (compOf g w i) with hlt | hge
  · have hbi : b < i := by have := h.le; omega
    rcases hs with rfl | hs
    · omega
    · have := h.no b hlt
      rw [(both_iff hG w hi (by omega)).2 hs] at this
      cases this
  · exact hge
theorem comp_eq {g : Gr} (hG : GoodG g) (w : List Spot) {i j : Nat} (hi : i < g.names.length) (hj : j < g.names.length) : compOf g w i = compOf g w j ↔ Same g w i j := by
  have si : Same g w i (compOf g w i) := by rcases comp_both hG w hi with h | h; exact .inl h.symm; exact .inr h
  have sj : Same g w j (compOf g w j) := by rcases comp_both hG w hj with h | h; exact .inl h.symm; exact .inr h
  constructor
  · intro e
    rw [e] at si
    exact si.trans sj.symm
  · intro s
    have h1 := comp_min hG w hi (s.trans sj)
    have h2 := comp_min hG w hj (s.symm.trans si)
    omega
end Go.Proofs.Ytfjfbapiheehaaa.V
end
section
-- YtfjfbapiheehaaaVC
set_option linter.unusedVariables false
set_option linter.unusedSimpArgs false
namespace Go.Proofs.Ytfjfbapiheehaaa.V
open Go Go.RowKit Go.Proofs.Ytfjfbapiheehaaa.DG
theorem isIn_less {a b : List Spot} {x : Spot} (h : x ∉ a ++ b) : x ∉ a := fun k => h (List.mem_append_left _ k)
theorem step_more {g : Gr} {a b : List Spot} {x y : Nat} (h : Step g (a ++ b) x y) : Step g a x y := by
  obtain ⟨z, hz, e⟩ := List.mem_map.1 (show (x, y) ∈ (restS g (a ++ b)).map (edge g) from h)
  obtain ⟨h1, h2⟩ := mem_restS.1 hz
  exact List.mem_map.2 ⟨z, mem_restS.2 ⟨h1, isIn_less h2⟩, e⟩
theorem hang_more {g : Gr} {a b : List Spot} {x y : Nat} (h : Hang g (a ++ b) x y) : Hang g a x y := Path.mono (fun _ _ => step_more) h
theorem step_of {g : Gr} {w : List Spot} {z : Spot} (hz : z ∈ restS g w) : Step g w (edge g z).1 (edge g z).2 := List.mem_map.2 ⟨z, hz, rfl⟩
theorem adv_step {g : Gr} {w : List Spot} {x y : Pl} (h : Adv (stepsOf g w) x y) : Step g w x.1 y.1 := by
  obtain ⟨s, hs, he, rfl⟩ := h
  obtain ⟨z, hz, rfl⟩ := List.mem_map.1 hs
  have := step_of hz
  rw [← he]; exact this
theorem tr_hang {g : Gr} {w : List Spot} {x y : Pl} (h : Tr (Adv (stepsOf g w)) x y) : Hang g w x.1 y.1 := by
  induction h with
  | one e => exact .one (adv_step e)
  | more _ e ih => exact .more ih (adv_step e)
theorem tr_left {g : Gr} {w : List Spot} {x y : Pl} (h : Tr (Adv (stepsOf g w)) x y) (hl : x.2.1 = false) : y.2.1 = true → ∃ z ∈ restS g w, 0 < z.2 ∧ (x.1 = (edge g z).1 ∨ Hang g w x.1 (edge g z).1) ∧ ((edge g z).2 = y.1 ∨ Hang g w (edge g z).2 y.1) := by
  induction h with
  | one e =>
    obtain ⟨s, hs, he, rfl⟩ := e
    obtain ⟨z, hz, rfl⟩ := List.mem_map.1 hs
    intro hy
    exact ⟨z, hz, by simpa [adv, stepOf, hl] using hy, .inl he.symm, .inl rfl⟩
  | @more b c h e ih =>
    have hst := adv_step e
    obtain ⟨s, hs, he, rfl⟩ := e
    obtain ⟨z, hz, rfl⟩ := List.mem_map.1 hs
    intro hy
    by_cases hb : b.2.1 = true
    · obtain ⟨z', hz', h0, h1, h2⟩ := ih hb
      refine ⟨z', hz', h0, h1, .inr ?_⟩
      rcases h2 with h2 | h2
      · rw [h2]; exact .one hst
      · exact .more h2 hst
    · rw [Bool.not_eq_true] at hb
      exact ⟨z, hz, by simpa [adv, stepOf, hb] using hy, .inr (by have := tr_hang h; rw [← he] at this; exact this), .inl rfl⟩
theorem tr_right {g : Gr} {w : List Spot} {x y : Pl} (h : Tr (Adv (stepsOf g w)) x y) (hl : x.2.2 = false) : y.2.2 = true → ∃ z ∈ restS g w, z.2 < (rightLen g z : Int) - 1 ∧ (x.1 = (edge g z).1 ∨ Hang g w x.1 (edge g z).1) ∧ ((edge g z).2 = y.1 ∨ Hang g w (edge g z).2 y.1) := by
  induction h with
  | one e =>
    obtain ⟨s, hs, he, rfl⟩ := e
    obtain ⟨z, hz, rfl⟩ := List.mem_map.1 hs
    intro hy
    exact ⟨z, hz, by simpa [adv, stepOf, hl] using hy, .inl he.symm, .inl rfl⟩
  | @more b c h e ih =>
    have hst := adv_step e
    obtain ⟨s, hs, he, rfl⟩ := e
    obtain ⟨z, hz, rfl⟩ := List.mem_map.1 hs
    intro hy
    by_cases hb : b.2.2 = true
    · obtain ⟨z', hz', h0, h1, h2⟩ := ih hb
      refine ⟨z', hz', h0, h1, .inr ?_⟩
      rcases h2 with h2 | h2
      · rw [h2]; exact .one hst
      · exact .more h2 hst
    · rw [Bool.not_eq_true] at hb
      exact ⟨z, hz, by simpa [adv, stepOf, hb] using hy, .inr (by have := tr_hang h; rw [← he] at this; exact this), .inl rfl⟩
theorem round_inner {g : Gr} (hG : GoodG g) {w m : List Spot} {z : Spot} {a : Nat} (hz : z ∈ restS g (w ++ m)) (h1 : a = (edge g z).1 ∨ Hang g (w ++ m) a (edge g z).1) (h2 : (edge g z).2 = a ∨ Hang g (w ++ m) (edge g z).2 a) : z ∈ innerS g w := by
  have hz' : z ∈ restS g w := mem_restS.2 ⟨(mem_restS.1 hz).1, isIn_less (mem_restS.1 hz).2⟩
  have hlt := edges_lt (List.mem_map.2 ⟨z, hz', rfl⟩ : edge g z ∈ edges g w)
  have hs : Same g w (edge g z).1 (edge g z).2 := by
    have h0 : Hang g w (edge g z).1 (edge g z).2 := .one (step_of hz')
    rcases h1 with h1 | h1 <;> rcases h2 with h2 | h2
    · exact .inl (by omega)
    · exact .inr ⟨h0, by have := hang_more h2; rw [h1] at this; exact this⟩
    · exact .inr ⟨h0, by have := hang_more h1; rw [← h2] at this; exact this⟩
    · exact .inr ⟨h0, (hang_more h2).trans (hang_more h1)⟩
  exact List.mem_filter.2 ⟨hz', decide_eq_true ((comp_eq hG w hlt.1 hlt.2).2 hs)⟩
noncomputable def eC (g : Gr) (w : List Spot) (so : Pl → Bool) (a : Nat) : Bool := (plOf (stepsOf g w) g.names.length a).any fun p => decide (p.1 = a) && so p
theorem eC_iff (g : Gr) (w : List Spot) (so : Pl → Bool) (a : Nat) : eC g w so a = true ↔ ∃ l r, Loop g w a l r ∧ so (a, l, r) = true := each_iff w so a
theorem eC_both {g : Gr} {w : List Spot} {a : Nat} (h : eC g w soB a = true) : eC g w soL a = true ∧ eC g w soR a = true := by
  obtain ⟨l, r, hl, hs⟩ := (eC_iff ..).1 h
  have : l = true ∧ r = true := by simpa [soB] using hs
  exact ⟨(eC_iff ..).2 ⟨l, r, hl, this.1⟩, (eC_iff ..).2 ⟨l, r, hl, this.2⟩⟩
theorem eC_hang {g : Gr} (hG : GoodG g) {w : List Spot} {a : Nat} (ha : a < g.names.length) {so : Pl → Bool} (h : eC g w so a = true) : cellB (onOf g w) a a = true := by
  obtain ⟨l, r, hl, hs⟩ := (eC_iff ..).1 h
  exact (cell_on hG w ha a).2 (tr_hang hl)
theorem eC_left {g : Gr} (hG : GoodG g) {w m : List Spot} {a : Nat} (h : eC g (w ++ m) soL a = true) : ∃ z ∈ innerS g w, z ∉ m ∧ 0 < z.2 := by
  obtain ⟨l, r, hl, hs⟩ := (eC_iff ..).1 h
  obtain ⟨z, hz, h0, h1, h2⟩ := tr_left hl rfl hs
  exact ⟨z, round_inner hG hz h1 h2, fun k => (mem_restS.1 hz).2 (List.mem_append_right _ k), h0⟩
theorem eC_right {g : Gr} (hG : GoodG g) {w m : List Spot} {a : Nat} (h : eC g (w ++ m) soR a = true) : ∃ z ∈ innerS g w, z ∉ m ∧ z.2 < (rightLen g z : Int) - 1 := by
  obtain ⟨l, r, hl, hs⟩ := (eC_iff ..).1 h
  obtain ⟨z, hz, h0, h1, h2⟩ := tr_right hl rfl hs
  exact ⟨z, round_inner hG hz h1 h2, fun k => (mem_restS.1 hz).2 (List.mem_append_right _ k), h0⟩
theorem eC_none {g : Gr} (hG : GoodG g) {w : List Spot} {a : Nat} : eC g (w ++ innerS g w) soL a = false := by
  rw [Bool.eq_false_iff]
  intro h
  obtain ⟨z, hz, hn, _⟩ := eC_left hG h
  exact hn hz
def isFst (z : Spot) : Bool := decide (z.2 = 0)
def isLst (g : Gr) (z : Spot) : Bool := decide (z.2 + 1 = (rightLen g z : Int))
theorem eC_fst {g : Gr} (hG : GoodG g) {w : List Spot} {a : Nat} (h : (innerS g w).all isFst = true) : eC g w soL a = false := by
  rw [Bool.eq_false_iff]
  intro k
  obtain ⟨z, hz, _, h0⟩ := eC_left hG (m := []) (by rw [List.append_nil]; exact k)
  have := of_decide_eq_true (List.all_eq_true.1 h z hz)
  omega
theorem eC_lst {g : Gr} (hG : GoodG g) {w : List Spot} {a : Nat} (h : (innerS g w).all (isLst g) = true) : eC g w soR a = false := by
  rw [Bool.eq_false_iff]
  intro k
  obtain ⟨z, hz, _, h0⟩ := eC_right hG (m := []) (by rw [List.append_nil]; exact k)
  have := of_decide_eq_true (List.all_eq_true.1 h z hz)
  omega
theorem all_take {α : Type} {p : α → Bool} {l : List α} {i : Nat} {x : α} (h : l[i]? = some x) : (l.take (i + 1)).all p = ((l.take i).all p && p x) := by
  rw [List.take_add_one, h, List.all_append]
  simp
theorem eC_get {g : Gr} (hG : GoodG g) (w : List Spot) (so : Pl → Bool) {a : Nat} (ha : a < g.names.length) : (eachOf g w so)[a]? = some (eC g w so a) := eachOf_get hG w so ha
set_option maxRecDepth 20000 in
set_option maxHeartbeats 16000000 in
theorem eholds_v (g : Gr) (w : List Spot) (hw0 : w.length ≤ 1000000000000000) : VCalls Try.prog 10 [gV g, sV w] [] 0 (Gives (.val (.bool true))) := by
  refine VCalls.enterD (n := 215) Try.func10 rfl rfl (by simp) rfl (fun cx hcx => ?_)
  (repeat (first | ((with_reducible refine VOps.same ?_); (first | (refine VOps.nil ?_; try dsimp only [VThen, VBlock]) | refine VOps.vp (by rfl) (by kernel_rfl) (by rfl) (VPure.assign rfl rfl) ?_ | refine VOps.vv (by rfl) (by kernel_rfl) (by rfl) (VLoad.boxA rfl rfl rfl (by rfl) (Nat.le_of_ble_eq_true (by rfl)) (by decide)) ?_ | refine VOps.box rfl rfl (by kernel_rfl) rfl rfl rfl rfl ?_)) | refine VCode.seq ?_ | refine VCode.region rfl ?_))
  refine VOps.pure rfl Try.func11 rfl (by kernel_rfl) rfl rfl rfl rfl rfl rfl rfl (large_v g) ?_
  (repeat (first | ((with_reducible refine VOps.same ?_); (first | refine VOps.vp (by rfl) (by kernel_rfl) (by rfl) (VPure.move rfl rfl) ?_))))
  refine VOps.bool (d := 20) rfl (fun h1 => ?_) (fun h1 => ?_)
  · (repeat (first | ((with_reducible refine VOps.same ?_); (first | (refine VOps.nil ?_; try dsimp only [VThen, VBlock]) | refine VOps.vp (by rfl) (by kernel_rfl) (by rfl) (VPure.move rfl rfl) ?_ | refine VOps.vp (by rfl) (by kernel_rfl) (by rfl) (VPure.pick_t rfl rfl rfl) ?_ | refine VOps.passv rfl (by kernel_rfl) rfl ?_))))
    refine VCode.cond_t rfl rfl ?_
    (repeat (first | refine VCode.seq ?_ | refine VCode.region rfl ?_))
    refine VOps.pure rfl Try.func29 rfl (by kernel_rfl) rfl rfl rfl rfl rfl rfl rfl (ewakes_v) ?_
    (repeat (first | ((with_reducible refine VOps.same ?_); (first | (refine VOps.nil ?_; try dsimp only [VThen, VBlock]) | refine VOps.vp (by rfl) (by kernel_rfl) (by rfl) (VPure.assign rfl rfl) ?_))))
    refine VCode.retD rfl rfl (.tmp rfl .nil) ?_
    rfl
  obtain ⟨hg, _⟩ := small_sized h1
  have hn := hg.names
  have ht := hg.terms
  have hr := hg.rules
  (repeat (first | ((with_reducible refine VOps.same ?_); (first | refine VOps.vv (by rfl) (by kernel_rfl) (by rfl) (VLoad.boxA rfl rfl rfl (by rfl) (Nat.le_of_ble_eq_true (by rfl)) (by decide)) ?_))))
  refine VOps.pure rfl Try.func26 rfl (by kernel_rfl) rfl rfl rfl rfl rfl rfl rfl (rgood_v g hg) ?_
  (repeat (first | ((with_reducible refine VOps.same ?_); (first | refine VOps.vp (by rfl) (by kernel_rfl) (by rfl) (VPure.move rfl rfl) ?_ | refine VOps.vp (by rfl) (by kernel_rfl) (by rfl) (VPure.not rfl rfl) ?_ | refine VOps.vp (by rfl) (by kernel_rfl) (by rfl) (VPure.pick_f rfl rfl rfl) ?_))))
  refine VOps.bool (d := 25) rfl (fun h2 => ?_) (fun h2 => ?_)
  · (repeat (first | ((with_reducible refine VOps.same ?_); (first | (refine VOps.nil ?_; try dsimp only [VThen, VBlock]) | refine VOps.vp (by rfl) (by kernel_rfl) (by rfl) (VPure.pick_t rfl rfl rfl) ?_ | refine VOps.passv rfl (by kernel_rfl) rfl ?_))))
    refine VCode.cond_t rfl rfl ?_
    (repeat (first | refine VCode.seq ?_ | refine VCode.region rfl ?_))
    refine VOps.pure rfl Try.func29 rfl (by kernel_rfl) rfl rfl rfl rfl rfl rfl rfl (ewakes_v) ?_
    (repeat (first | ((with_reducible refine VOps.same ?_); (first | (refine VOps.nil ?_; try dsimp only [VThen, VBlock]) | refine VOps.vp (by rfl) (by kernel_rfl) (by rfl) (VPure.assign rfl rfl) ?_))))
    refine VCode.retD rfl rfl (.tmp rfl .nil) ?_
    rfl
  have hG : GoodG g := by simpa using h2
  (repeat (first | ((with_reducible refine VOps.same ?_); (first | (refine VOps.nil ?_; try dsimp only [VThen, VBlock]) | refine VOps.vp (by rfl) (by kernel_rfl) (by rfl) (VPure.move rfl rfl) ?_ | refine VOps.vp (by rfl) (by kernel_rfl) (by rfl) (VPure.len_map TI.und' rfl rfl) ?_ | refine VOps.vp (by rfl) (by kernel_rfl) (by rfl) (VPure.gtr rfl rfl rfl) ?_ | refine VOps.vp (by rfl) (by kernel_rfl) (by rfl) (VPure.pick_f rfl rfl rfl) ?_))))
  refine VCode.cond rfl (fun h3 => ?_) (fun h3 => ?_)
  · skip
    (repeat (first | refine VCode.seq ?_ | refine VCode.region rfl ?_))
    refine VOps.pure rfl Try.func29 rfl (by kernel_rfl) rfl rfl rfl rfl rfl rfl rfl (ewakes_v) ?_
    (repeat (first | ((with_reducible refine VOps.same ?_); (first | (refine VOps.nil ?_; try dsimp only [VThen, VBlock]) | refine VOps.vp (by rfl) (by kernel_rfl) (by rfl) (VPure.assign rfl rfl) ?_))))
    refine VCode.retD rfl rfl (.tmp rfl .nil) ?_
    rfl
  have hw := of_decide_eq_false h3
  have hil : (innerS g w).length ≤ 480 := Nat.le_trans (List.length_filter_le _ _) (restS_len g w)
  have lL := eachOf_len hG w soL
  have lR := eachOf_len hG w soR
  have lB := eachOf_len hG w soB
  have lN := eachOf_len hG (w ++ innerS g w) soL
  have hol := onOf_len hG w
  (repeat (first | ((with_reducible refine VOps.same ?_); (first | (refine VOps.nil ?_; try dsimp only [VThen, VBlock]) | refine VOps.vp (by rfl) (by kernel_rfl) (by rfl) (VPure.assign rfl rfl) ?_ | refine VOps.vp (by rfl) (by kernel_rfl) (by rfl) (VPure.len_map TI.und' rfl rfl) ?_ | refine VOps.vp (by rfl) (by kernel_rfl) (by rfl) (VPure.field_ptr rfl rfl rfl) ?_ | refine VOps.vv (by rfl) (by kernel_rfl) (by rfl) (VLoad.box1 rfl rfl rfl rfl (by rfl) (by decide)) ?_)) | refine VCode.seq ?_ | refine VCode.region rfl ?_ | refine VCode.skip ?_))
  refine VCode.thenTo ⟨[(6, .sl 1 ((eachOf g w soL).map encB)), (7, .sl 1 ((eachOf g w soR).map encB)), (8, .sl 1 ((eachOf g w soB).map encB)), (9, .sl 1 ((onOf g w).map encRow)), (5, .val (.int .i64 (g.names.length : Int))), (1, sV w), (2, .ptr 0 0)], [(0, gO g)], 1⟩ ?_ ?_
  · refine VCode.drawAny [] (by kernel_rfl) rfl ?_
    refine VAny.loadI (i := 0) rfl rfl (by kernel_rfl) rfl (VLoad.boxA rfl rfl rfl (by rfl) (Nat.le_of_ble_eq_true (by rfl)) (by decide)) ?_
    refine VAny.pureI (i := 1) rfl rfl (by kernel_rfl) rfl (VPure.move rfl rfl) ?_
    refine VAny.loadI (i := 3) rfl rfl (by kernel_rfl) rfl (VLoad.boxA rfl rfl rfl (by rfl) (Nat.le_of_ble_eq_true (by rfl)) (by decide)) ?_
    refine VAny.pureI (i := 4) rfl rfl (by kernel_rfl) rfl (VPure.move rfl rfl) ?_
    refine VAny.loadI (i := 6) rfl rfl (by kernel_rfl) rfl (VLoad.boxA rfl rfl rfl (by rfl) (Nat.le_of_ble_eq_true (by rfl)) (by decide)) ?_
    refine VAny.pureI (i := 7) rfl rfl (by kernel_rfl) rfl (VPure.move rfl rfl) ?_
    refine VAny.loadI (i := 9) rfl rfl (by kernel_rfl) rfl (VLoad.boxA rfl rfl rfl (by rfl) (Nat.le_of_ble_eq_true (by rfl)) (by decide)) ?_
    refine VAny.pureI (i := 10) rfl rfl (by kernel_rfl) rfl (VPure.move rfl rfl) ?_
    refine VAny.movesI (is := [2]) (by kernel_rfl) (by simp) rfl (all1 ?_)
    · refine VMv.oo rfl rfl rfl rfl (VOp.gives rfl Try.func30 rfl rfl rfl rfl rfl rfl (left_v g w hg (by omega)) rfl) ?_
      refine VAny.movesI (is := [5]) (by kernel_rfl) (by simp) rfl (all1 ?_)
      · refine VMv.oo rfl rfl rfl rfl (VOp.gives rfl Try.func32 rfl rfl rfl rfl rfl rfl (right_v g w hg (by omega)) rfl) ?_
        refine VAny.movesI (is := [8]) (by kernel_rfl) (by simp) rfl (all1 ?_)
        · refine VMv.oo rfl rfl rfl rfl (VOp.gives rfl Try.func33 rfl rfl rfl rfl rfl rfl (both_v g w hg (by omega)) rfl) ?_
          refine VAny.movesI (is := [11]) (by kernel_rfl) (by simp) rfl (all1 ?_)
          · refine VMv.oo rfl rfl rfl rfl (VOp.gives rfl Try.func14 rfl rfl rfl rfl rfl rfl (on_v g w hg (by omega)) rfl) ?_
            refine VAny.pureI (i := 12) rfl rfl (by kernel_rfl) rfl (VPure.assign rfl rfl) ?_
            refine VAny.pureI (i := 13) rfl rfl (by kernel_rfl) rfl (VPure.assign rfl rfl) ?_
            refine VAny.pureI (i := 14) rfl rfl (by kernel_rfl) rfl (VPure.assign rfl rfl) ?_
            refine VAny.pureI (i := 15) rfl rfl (by kernel_rfl) rfl (VPure.assign rfl rfl) ?_
            refine VAny.done ?_
            (refine Less.mk (l := [0]) hcx ?ss ?hh rfl (by decide) rfl rfl; (case ss => repeat (first | exact SubS.nil | refine SubS.cons rfl rfl ?_ | refine SubS.cons (congrArg (fun z => some (V.val (Value.int IntKind.i64 z))) (by omega)) rfl ?_ | refine SubS.cons (congrArg (fun z => some (V.val (Value.bool z))) (by assumption)) rfl ?_)); (case hh => repeat (first | exact SubH.nil | refine SubH.cons rfl rfl rfl ?_)))
  (repeat (first | ((with_reducible refine VOps.same ?_); (first | refine VOps.vp (by rfl) (by kernel_rfl) (by rfl) (VPure.move rfl rfl) ?_ | refine VOps.vp (by rfl) (by kernel_rfl) (by rfl) (VPure.len_map TI.und' rfl rfl) ?_ | refine VOps.vp (by rfl) (by kernel_rfl) (by rfl) (VPure.nei rfl rfl rfl) ?_)) | refine VCode.seq ?_ | refine VCode.region rfl ?_))
  refine VOps.says (d := 50) (v := .val (.bool false)) rfl (by rw [lL]; simp) ?_
  (repeat (first | ((with_reducible refine VOps.same ?_); (first | refine VOps.vp (by rfl) (by kernel_rfl) (by rfl) (VPure.move rfl rfl) ?_ | refine VOps.vp (by rfl) (by kernel_rfl) (by rfl) (VPure.len_map TI.und' rfl rfl) ?_ | refine VOps.vp (by rfl) (by kernel_rfl) (by rfl) (VPure.nei rfl rfl rfl) ?_ | refine VOps.vp (by rfl) (by kernel_rfl) (by rfl) (VPure.pick_f rfl rfl rfl) ?_))))
  refine VOps.says (d := 56) (v := .val (.bool false)) rfl (by rw [lR]; simp) ?_
  (repeat (first | ((with_reducible refine VOps.same ?_); (first | refine VOps.vp (by rfl) (by kernel_rfl) (by rfl) (VPure.move rfl rfl) ?_ | refine VOps.vp (by rfl) (by kernel_rfl) (by rfl) (VPure.len_map TI.und' rfl rfl) ?_ | refine VOps.vp (by rfl) (by kernel_rfl) (by rfl) (VPure.nei rfl rfl rfl) ?_ | refine VOps.vp (by rfl) (by kernel_rfl) (by rfl) (VPure.pick_f rfl rfl rfl) ?_))))
  refine VOps.says (d := 62) (v := .val (.bool false)) rfl (by rw [lB]; simp) ?_
  (repeat (first | ((with_reducible refine VOps.same ?_); (first | (refine VOps.nil ?_; try dsimp only [VThen, VBlock]) | refine VOps.vp (by rfl) (by kernel_rfl) (by rfl) (VPure.move rfl rfl) ?_ | refine VOps.vp (by rfl) (by kernel_rfl) (by rfl) (VPure.len_map TI.und' rfl rfl) ?_ | refine VOps.vp (by rfl) (by kernel_rfl) (by rfl) (VPure.nei rfl rfl rfl) ?_ | refine VOps.vp (by rfl) (by kernel_rfl) (by rfl) (VPure.pick_f rfl rfl rfl) ?_))))
  refine VCode.cond_f rfl (by rw [hol]; simp) ?_
  (repeat (first | ((with_reducible refine VOps.same ?_); (first | refine VOps.vp (by rfl) (by kernel_rfl) (by rfl) (VPure.move rfl rfl) ?_ | refine VOps.vv (by rfl) (by kernel_rfl) (by rfl) (VLoad.boxA rfl rfl rfl (by rfl) (Nat.le_of_ble_eq_true (by rfl)) (by decide)) ?_)) | refine VCode.seq ?_ | refine VCode.region rfl ?_ | refine VCode.skip ?_))
  refine VOps.gives rfl Try.func23 rfl (by kernel_rfl) rfl rfl rfl rfl rfl rfl rfl rfl (inner_v g w hg (by omega)) ?_
  (repeat (first | ((with_reducible refine VOps.same ?_); (first | (refine VOps.nil ?_; try dsimp only [VThen, VBlock]) | refine VOps.vp (by rfl) (by kernel_rfl) (by rfl) (VPure.assign rfl rfl) ?_)) | refine VCode.seq ?_ | refine VCode.region rfl ?_ | refine VCode.block ?_))
  refine VCode.loop (fun m st => ∃ (i : Nat) (F L : Bool), i ≤ (innerS g w).length ∧ m = (innerS g w).length - i ∧ F = ((innerS g w).take i).all isFst ∧ L = ((innerS g w).take i).all (isLst g) ∧ st = ⟨[(13, .val (.int .i64 (i : Int))), (12, .val (.bool L)), (11, .val (.bool F)), (10, sV (innerS g w)), (6, .sl 1 ((eachOf g w soL).map encB)), (7, .sl 1 ((eachOf g w soR).map encB)), (8, .sl 1 ((eachOf g w soB).map encB)), (9, .sl 1 ((onOf g w).map encRow)), (5, .val (.int .i64 (g.names.length : Int))), (1, sV w), (2, .ptr 0 0)], [(0, gO g)], 1⟩) (innerS g w).length ?_ ?_
  · (refine Less.mk (l := [0]) hcx ?ss ?hh rfl (by decide) rfl ⟨0, true, true, by omega, by omega, rfl, rfl, rfl⟩; (case ss => repeat (first | exact SubS.nil | refine SubS.cons rfl rfl ?_ | refine SubS.cons (congrArg (fun z => some (V.val (Value.int IntKind.i64 z))) (by omega)) rfl ?_ | refine SubS.cons (congrArg (fun z => some (V.val (Value.bool z))) (by assumption)) rfl ?_)); (case hh => repeat (first | exact SubH.nil | refine SubH.cons rfl rfl rfl ?_)))
  rintro m st ⟨i, F, L, hi, rfl, hF, hL, rfl⟩
  cases hx : (innerS g w)[i]? with
  | some x =>
    have hlt : i < (innerS g w).length := (List.getElem?_eq_some_iff.1 hx).1
    have hxm := (mem_restS.1 (List.mem_filter.1 (List.mem_of_getElem? hx)).1).1
    obtain ⟨_, i1, j1, r1, s1, a1, b1, hsp⟩ := spot_at hxm
    have hr1 := hsp.hr
    have hr1l := (List.getElem?_eq_some_iff.1 hr1).1
    have hs1l := (List.getElem?_eq_some_iff.1 hsp.hs).1
    have hF' := all_take (p := isFst) hx
    have hL' := all_take (p := isLst g) hx
    rw [← hF] at hF'
    rw [← hL] at hL'
    obtain rfl := hsp.hx
    have hrl : rightLen g ((i1 : Int), (j1 : Int)) = r1.right.length := by unfold rightLen; rw [Int.toNat_natCast, hr1]
    have hrr := hg.rights r1 (List.mem_of_getElem? hr1)
    unfold isFst at hF'
    unfold isLst at hL'
    rw [hrl] at hL'
    replace hF' := hF'.symm
    replace hL' := hL'.symm
    (repeat (first | ((with_reducible refine VOps.same ?_); (first | (refine VOps.nil ?_; try dsimp only [VThen, VBlock]) | refine VOps.vp (by rfl) (by kernel_rfl) (by rfl) (VPure.move rfl rfl) ?_ | refine VOps.vp (by rfl) (by kernel_rfl) (by rfl) (VPure.len_map TI.und' rfl rfl) ?_ | refine VOps.vp (by rfl) (by kernel_rfl) (by rfl) (VPure.lss rfl rfl rfl) ?_)) | refine VCode.seq ?_ | refine VCode.region rfl ?_))
    refine VCode.cond_t rfl (decide_eq_true (by omega)) ?_
    (repeat (first | ((with_reducible refine VOps.same ?_); (first | (refine VOps.nil ?_; try dsimp only [VThen, VBlock]) | refine VOps.vp (by rfl) (by kernel_rfl) (by rfl) (VPure.move rfl rfl) ?_ | refine VOps.vp (by rfl) (by kernel_rfl) (by rfl) (VPure.len_map TI.und' rfl rfl) ?_ | refine VOps.vp (by rfl) (by kernel_rfl) (by rfl) (VPure.idx_map rfl rfl rfl (by assumption)) ?_ | refine VOps.vp (by rfl) (by kernel_rfl) (by rfl) (VPure.field_el rfl rfl) ?_ | refine VOps.vp (by rfl) (by kernel_rfl) (by rfl) (VPure.field_ptr rfl rfl rfl) ?_ | refine VOps.vv (by rfl) (by kernel_rfl) (by rfl) (VLoad.el1 rfl rfl rfl (by rfl)) ?_ | refine VOps.vv (by rfl) (by kernel_rfl) (by rfl) (VLoad.box1 rfl rfl rfl rfl (by rfl) (by decide)) ?_ | refine VOps.vp (by rfl) (by kernel_rfl) (by rfl) (VPure.lss rfl rfl rfl) ?_ | refine VOps.vp (by rfl) (by kernel_rfl) (by rfl) (VPure.geq rfl rfl rfl) ?_ | refine VOps.vp (by rfl) (by kernel_rfl) (by rfl) (VPure.pick_f rfl rfl rfl) ?_)) | refine VCode.seq ?_ | refine VCode.draw [] rfl ?_ | refine VCode.block ?_ | refine VCode.skip ?_))
    refine VCode.cond_f rfl (decide_eq_false (by omega)) ?_
    (repeat (first | ((with_reducible refine VOps.same ?_); (first | refine VOps.vp (by rfl) (by kernel_rfl) (by rfl) (VPure.move rfl rfl) ?_)) | refine VCode.seq ?_ | refine VCode.region rfl ?_ | refine VCode.skip ?_))
    refine VOps.bool (d := 95) rfl (fun b1 => ?_) (fun b1 => ?_)
    · subst b1
      (repeat (first | ((with_reducible refine VOps.same ?_); (first | (refine VOps.nil ?_; try dsimp only [VThen, VBlock]) | refine VOps.vp (by rfl) (by kernel_rfl) (by rfl) (VPure.move rfl rfl) ?_ | refine VOps.vp (by rfl) (by kernel_rfl) (by rfl) (VPure.assign rfl rfl) ?_ | refine VOps.vp (by rfl) (by kernel_rfl) (by rfl) (VPure.idx_map rfl rfl rfl (by assumption)) ?_ | refine VOps.vp (by rfl) (by kernel_rfl) (by rfl) (VPure.field_el rfl rfl) ?_ | refine VOps.vv (by rfl) (by kernel_rfl) (by rfl) (VLoad.el1 rfl rfl rfl (by rfl)) ?_ | refine VOps.vp (by rfl) (by kernel_rfl) (by rfl) (VPure.eqi rfl rfl rfl) ?_ | refine VOps.vp (by rfl) (by kernel_rfl) (by rfl) (VPure.pick_t rfl rfl rfl) ?_)) | refine VCode.draw [] rfl ?_))
      refine VOps.bool (d := 104) rfl (fun b2 => ?_) (fun b2 => ?_)
      · subst b2
        (repeat (first | ((with_reducible refine VOps.same ?_); (first | (refine VOps.nil ?_; try dsimp only [VThen, VBlock]) | refine VOps.vp (by rfl) (by kernel_rfl) (by rfl) (VPure.move rfl rfl) ?_ | refine VOps.vp (by rfl) (by kernel_rfl) (by rfl) (VPure.assign rfl rfl) ?_ | refine VOps.vp (by rfl) (by kernel_rfl) (by rfl) (VPure.len_map TI.und' rfl rfl) ?_ | refine VOps.vp (by rfl) (by kernel_rfl) (by rfl) (VPure.idx_map rfl rfl rfl (by assumption)) ?_ | refine VOps.vp (by rfl) (by kernel_rfl) (by rfl) (VPure.field_el rfl rfl) ?_ | refine VOps.vp (by rfl) (by kernel_rfl) (by rfl) (VPure.field_ptr rfl rfl rfl) ?_ | refine VOps.vv (by rfl) (by kernel_rfl) (by rfl) (VLoad.el1 rfl rfl rfl (by rfl)) ?_ | refine VOps.vv (by rfl) (by kernel_rfl) (by rfl) (VLoad.box1 rfl rfl rfl rfl (by rfl) (by decide)) ?_ | refine VOps.vp (by rfl) (by kernel_rfl) (by rfl) (VPure.addK rfl rfl rfl (by omega)) ?_ | refine VOps.vp (by rfl) (by kernel_rfl) (by rfl) (VPure.eqi rfl rfl rfl) ?_ | refine VOps.vp (by rfl) (by kernel_rfl) (by rfl) (VPure.pick_t rfl rfl rfl) ?_)) | refine VCode.region rfl ?_))
        (refine Less.mk (l := [0]) hcx ?ss ?hh rfl (by decide) rfl ⟨_, ?_, i + 1, _, _, by omega, rfl, hF', hL', rfl⟩; (case ss => repeat (first | exact SubS.nil | refine SubS.cons rfl rfl ?_ | refine SubS.cons (congrArg (fun z => some (V.val (Value.int IntKind.i64 z))) (by omega)) rfl ?_ | refine SubS.cons (congrArg (fun z => some (V.val (Value.bool z))) (by assumption)) rfl ?_)); (case hh => repeat (first | exact SubH.nil | refine SubH.cons rfl rfl rfl ?_)))
        omega
      · subst b2
        (repeat (first | ((with_reducible refine VOps.same ?_); (first | (refine VOps.nil ?_; try dsimp only [VThen, VBlock]) | refine VOps.vp (by rfl) (by kernel_rfl) (by rfl) (VPure.move rfl rfl) ?_ | refine VOps.vp (by rfl) (by kernel_rfl) (by rfl) (VPure.assign rfl rfl) ?_ | refine VOps.vp (by rfl) (by kernel_rfl) (by rfl) (VPure.addK rfl rfl rfl (by omega)) ?_ | refine VOps.vp (by rfl) (by kernel_rfl) (by rfl) (VPure.pick_f rfl rfl rfl) ?_ | refine VOps.passv rfl (by kernel_rfl) rfl ?_)) | refine VCode.region rfl ?_))
        (refine Less.mk (l := [0]) hcx ?ss ?hh rfl (by decide) rfl ⟨_, ?_, i + 1, _, _, by omega, rfl, hF', hL', rfl⟩; (case ss => repeat (first | exact SubS.nil | refine SubS.cons rfl rfl ?_ | refine SubS.cons (congrArg (fun z => some (V.val (Value.int IntKind.i64 z))) (by omega)) rfl ?_ | refine SubS.cons (congrArg (fun z => some (V.val (Value.bool z))) (by assumption)) rfl ?_)); (case hh => repeat (first | exact SubH.nil | refine SubH.cons rfl rfl rfl ?_)))
        omega
    · subst b1
      (repeat (first | ((with_reducible refine VOps.same ?_); (first | (refine VOps.nil ?_; try dsimp only [VThen, VBlock]) | refine VOps.vp (by rfl) (by kernel_rfl) (by rfl) (VPure.move rfl rfl) ?_ | refine VOps.vp (by rfl) (by kernel_rfl) (by rfl) (VPure.assign rfl rfl) ?_ | refine VOps.vp (by rfl) (by kernel_rfl) (by rfl) (VPure.pick_f rfl rfl rfl) ?_ | refine VOps.passv rfl (by kernel_rfl) rfl ?_)) | refine VCode.draw [] rfl ?_))
      refine VOps.bool (d := 104) rfl (fun b2 => ?_) (fun b2 => ?_)
      · subst b2
        (repeat (first | ((with_reducible refine VOps.same ?_); (first | (refine VOps.nil ?_; try dsimp only [VThen, VBlock]) | refine VOps.vp (by rfl) (by kernel_rfl) (by rfl) (VPure.move rfl rfl) ?_ | refine VOps.vp (by rfl) (by kernel_rfl) (by rfl) (VPure.assign rfl rfl) ?_ | refine VOps.vp (by rfl) (by kernel_rfl) (by rfl) (VPure.len_map TI.und' rfl rfl) ?_ | refine VOps.vp (by rfl) (by kernel_rfl) (by rfl) (VPure.idx_map rfl rfl rfl (by assumption)) ?_ | refine VOps.vp (by rfl) (by kernel_rfl) (by rfl) (VPure.field_el rfl rfl) ?_ | refine VOps.vp (by rfl) (by kernel_rfl) (by rfl) (VPure.field_ptr rfl rfl rfl) ?_ | refine VOps.vv (by rfl) (by kernel_rfl) (by rfl) (VLoad.el1 rfl rfl rfl (by rfl)) ?_ | refine VOps.vv (by rfl) (by kernel_rfl) (by rfl) (VLoad.box1 rfl rfl rfl rfl (by rfl) (by decide)) ?_ | refine VOps.vp (by rfl) (by kernel_rfl) (by rfl) (VPure.addK rfl rfl rfl (by omega)) ?_ | refine VOps.vp (by rfl) (by kernel_rfl) (by rfl) (VPure.eqi rfl rfl rfl) ?_ | refine VOps.vp (by rfl) (by kernel_rfl) (by rfl) (VPure.pick_t rfl rfl rfl) ?_)) | refine VCode.region rfl ?_))
        (refine Less.mk (l := [0]) hcx ?ss ?hh rfl (by decide) rfl ⟨_, ?_, i + 1, _, _, by omega, rfl, hF', hL', rfl⟩; (case ss => repeat (first | exact SubS.nil | refine SubS.cons rfl rfl ?_ | refine SubS.cons (congrArg (fun z => some (V.val (Value.int IntKind.i64 z))) (by omega)) rfl ?_ | refine SubS.cons (congrArg (fun z => some (V.val (Value.bool z))) (by assumption)) rfl ?_)); (case hh => repeat (first | exact SubH.nil | refine SubH.cons rfl rfl rfl ?_)))
        omega
      · subst b2
        (repeat (first | ((with_reducible refine VOps.same ?_); (first | (refine VOps.nil ?_; try dsimp only [VThen, VBlock]) | refine VOps.vp (by rfl) (by kernel_rfl) (by rfl) (VPure.move rfl rfl) ?_ | refine VOps.vp (by rfl) (by kernel_rfl) (by rfl) (VPure.assign rfl rfl) ?_ | refine VOps.vp (by rfl) (by kernel_rfl) (by rfl) (VPure.addK rfl rfl rfl (by omega)) ?_ | refine VOps.vp (by rfl) (by kernel_rfl) (by rfl) (VPure.pick_f rfl rfl rfl) ?_ | refine VOps.passv rfl (by kernel_rfl) rfl ?_)) | refine VCode.region rfl ?_))
        (refine Less.mk (l := [0]) hcx ?ss ?hh rfl (by decide) rfl ⟨_, ?_, i + 1, _, _, by omega, rfl, hF', hL', rfl⟩; (case ss => repeat (first | exact SubS.nil | refine SubS.cons rfl rfl ?_ | refine SubS.cons (congrArg (fun z => some (V.val (Value.int IntKind.i64 z))) (by omega)) rfl ?_ | refine SubS.cons (congrArg (fun z => some (V.val (Value.bool z))) (by assumption)) rfl ?_)); (case hh => repeat (first | exact SubH.nil | refine SubH.cons rfl rfl rfl ?_)))
        omega
  | none =>
    have hge : (innerS g w).length ≤ i := List.getElem?_eq_none_iff.1 hx
    rw [List.take_of_length_le hge] at hF hL
    have fF : ∀ a, F = true → eC g w soL a = false := fun a h => eC_fst hG (by rw [← hF]; exact h)
    have fL : ∀ a, L = true → eC g w soR a = false := fun a h => eC_lst hG (by rw [← hL]; exact h)
    clear hF hL
    (repeat (first | ((with_reducible refine VOps.same ?_); (first | (refine VOps.nil ?_; try dsimp only [VThen, VBlock]) | refine VOps.vp (by rfl) (by kernel_rfl) (by rfl) (VPure.move rfl rfl) ?_ | refine VOps.vp (by rfl) (by kernel_rfl) (by rfl) (VPure.len_map TI.und' rfl rfl) ?_ | refine VOps.vp (by rfl) (by kernel_rfl) (by rfl) (VPure.lss rfl rfl rfl) ?_)) | refine VCode.seq ?_ | refine VCode.region rfl ?_))
    refine VCode.cond_f rfl (decide_eq_false (by omega)) ?_
    (repeat (first | ((with_reducible refine VOps.same ?_); (first | (refine VOps.nil ?_; try dsimp only [VThen, VBlock]) | refine VOps.vp (by rfl) (by kernel_rfl) (by rfl) (VPure.assign rfl rfl) ?_)) | refine VCode.seq ?_ | refine VCode.region rfl ?_ | refine VCode.block ?_ | refine VCode.exit ?_))
    refine VCode.loop (fun m st => ∃ a : Nat, a ≤ g.names.length ∧ m = g.names.length - a ∧ st = ⟨[(14, .val (.int .i64 (a : Int))), (12, .val (.bool L)), (11, .val (.bool F)), (10, sV (innerS g w)), (6, .sl 1 ((eachOf g w soL).map encB)), (7, .sl 1 ((eachOf g w soR).map encB)), (8, .sl 1 ((eachOf g w soB).map encB)), (9, .sl 1 ((onOf g w).map encRow)), (5, .val (.int .i64 (g.names.length : Int))), (1, sV w), (2, .ptr 0 0)], [(0, gO g)], 1⟩) g.names.length ?_ ?_
    · (refine Less.mk (l := [0]) hcx ?ss ?hh rfl (by decide) rfl ⟨0, by omega, by omega, rfl⟩; (case ss => repeat (first | exact SubS.nil | refine SubS.cons rfl rfl ?_ | refine SubS.cons (congrArg (fun z => some (V.val (Value.int IntKind.i64 z))) (by omega)) rfl ?_ | refine SubS.cons (congrArg (fun z => some (V.val (Value.bool z))) (by assumption)) rfl ?_)); (case hh => repeat (first | exact SubH.nil | refine SubH.cons rfl rfl rfl ?_)))
    rintro m st ⟨a, ha, rfl, rfl⟩
    by_cases hal : a < g.names.length
    · have xL := eC_get hG w soL hal
      have xR := eC_get hG w soR hal
      have xB := eC_get hG w soB hal
      have xo := onOf_get hG w hal
      have xc := cell_get hG w hal hal
      have fB := @eC_both g w a
      have fHL := @eC_hang g hG w a hal soL
      have fHR := @eC_hang g hG w a hal soR
      have fF := fF a
      have fL := fL a
      have hrow : (rowOf g w a).length = g.names.length := (rowOf_is g w a).1
      generalize eC g w soL a = bL at xL fB fHL fF
      generalize eC g w soR a = bR at xR fB fHR fL
      generalize eC g w soB a = bB at xB fB
      generalize cellB (onOf g w) a a = bO at xc fHL fHR
      (repeat (first | ((with_reducible refine VOps.same ?_); (first | (refine VOps.nil ?_; try dsimp only [VThen, VBlock]) | refine VOps.vp (by rfl) (by kernel_rfl) (by rfl) (VPure.move rfl rfl) ?_ | refine VOps.vp (by rfl) (by kernel_rfl) (by rfl) (VPure.lss rfl rfl rfl) ?_)) | refine VCode.seq ?_ | refine VCode.region rfl ?_))
      refine VCode.cond_t rfl (decide_eq_true (by omega)) ?_
      dsimp only [List.append]
      (repeat (first | ((with_reducible refine VOps.same ?_); (first | refine VOps.vp (by rfl) (by kernel_rfl) (by rfl) (VPure.move rfl rfl) ?_ | refine VOps.vp (by rfl) (by kernel_rfl) (by rfl) (VPure.len_map TI.und' rfl rfl) ?_ | refine VOps.vp (by rfl) (by kernel_rfl) (by rfl) (VPure.idx_map rfl rfl rfl (by assumption)) ?_ | refine VOps.vv (by rfl) (by kernel_rfl) (by rfl) (VLoad.el1 rfl rfl rfl (by rfl)) ?_ | refine VOps.vp (by rfl) (by kernel_rfl) (by rfl) (VPure.nei rfl rfl rfl) ?_)) | refine VCode.seq ?_ | refine VCode.region rfl ?_ | refine VCode.block ?_ | refine VCode.skip ?_))
      refine VOps.says (d := 136) (v := .val (.bool false)) rfl (by rw [hrow]; simp) ?_
      (repeat (first | ((with_reducible refine VOps.same ?_); (first | refine VOps.vp (by rfl) (by kernel_rfl) (by rfl) (VPure.move rfl rfl) ?_ | refine VOps.vp (by rfl) (by kernel_rfl) (by rfl) (VPure.idx_map rfl rfl rfl (by assumption)) ?_ | refine VOps.vv (by rfl) (by kernel_rfl) (by rfl) (VLoad.el1 rfl rfl rfl (by rfl)) ?_))))
      refine VOps.bool (d := 141) rfl (fun b1 => ?_) (fun b1 => ?_)
      · subst b1
        obtain ⟨rfl, rfl⟩ := fB rfl
        obtain rfl := fHL rfl
        obtain rfl : F = false := by cases F; rfl; exact absurd (fF rfl) (by simp)
        obtain rfl : L = false := by cases L; rfl; exact absurd (fL rfl) (by simp)
        (repeat (first | ((with_reducible refine VOps.same ?_); (first | (refine VOps.nil ?_; try dsimp only [VThen, VBlock]) | refine VOps.vp (by rfl) (by kernel_rfl) (by rfl) (VPure.move rfl rfl) ?_ | refine VOps.vp (by rfl) (by kernel_rfl) (by rfl) (VPure.idx_map rfl rfl rfl (by assumption)) ?_ | refine VOps.vv (by rfl) (by kernel_rfl) (by rfl) (VLoad.el1 rfl rfl rfl (by rfl)) ?_ | refine VOps.vp (by rfl) (by kernel_rfl) (by rfl) (VPure.not rfl rfl) ?_ | refine VOps.vp (by rfl) (by kernel_rfl) (by rfl) (VPure.pick_t rfl rfl rfl) ?_ | refine VOps.vp (by rfl) (by kernel_rfl) (by rfl) (VPure.pick_f rfl rfl rfl) ?_ | refine VOps.passv rfl (by kernel_rfl) rfl ?_))))
        refine VCode.cond_f rfl rfl ?_
        (repeat (first | ((with_reducible refine VOps.same ?_); (first | (refine VOps.nil ?_; try dsimp only [VThen, VBlock]) | refine VOps.vp (by rfl) (by kernel_rfl) (by rfl) (VPure.move rfl rfl) ?_ | refine VOps.vp (by rfl) (by kernel_rfl) (by rfl) (VPure.assign rfl rfl) ?_ | refine VOps.vp (by rfl) (by kernel_rfl) (by rfl) (VPure.addK rfl rfl rfl (by omega)) ?_)) | refine VCode.region rfl ?_ | refine VCode.skip ?_))
        (refine Less.mk (l := [0]) hcx ?ss ?hh rfl (by decide) rfl ⟨_, ?_, a + 1, by omega, rfl, rfl⟩; (case ss => repeat (first | exact SubS.nil | refine SubS.cons rfl rfl ?_ | refine SubS.cons (congrArg (fun z => some (V.val (Value.int IntKind.i64 z))) (by omega)) rfl ?_ | refine SubS.cons (congrArg (fun z => some (V.val (Value.bool z))) (by assumption)) rfl ?_)); (case hh => repeat (first | exact SubH.nil | refine SubH.cons rfl rfl rfl ?_)))
        omega
      · subst b1
        (repeat (first | ((with_reducible refine VOps.same ?_); (first | refine VOps.vp (by rfl) (by kernel_rfl) (by rfl) (VPure.move rfl rfl) ?_ | refine VOps.vp (by rfl) (by kernel_rfl) (by rfl) (VPure.idx_map rfl rfl rfl (by assumption)) ?_ | refine VOps.vv (by rfl) (by kernel_rfl) (by rfl) (VLoad.el1 rfl rfl rfl (by rfl)) ?_ | refine VOps.vp (by rfl) (by kernel_rfl) (by rfl) (VPure.pick_f rfl rfl rfl) ?_ | refine VOps.passv rfl (by kernel_rfl) rfl ?_))))
        refine VOps.bool (d := 161) rfl (fun b2 => ?_) (fun b2 => ?_)
        · subst b2
          obtain rfl := fHL rfl
          obtain rfl : F = false := by cases F; rfl; exact absurd (fF rfl) (by simp)
          (repeat (first | ((with_reducible refine VOps.same ?_); (first | refine VOps.vp (by rfl) (by kernel_rfl) (by rfl) (VPure.move rfl rfl) ?_ | refine VOps.vp (by rfl) (by kernel_rfl) (by rfl) (VPure.idx_map rfl rfl rfl (by assumption)) ?_ | refine VOps.vv (by rfl) (by kernel_rfl) (by rfl) (VLoad.el1 rfl rfl rfl (by rfl)) ?_ | refine VOps.vp (by rfl) (by kernel_rfl) (by rfl) (VPure.not rfl rfl) ?_ | refine VOps.vp (by rfl) (by kernel_rfl) (by rfl) (VPure.pick_t rfl rfl rfl) ?_ | refine VOps.vp (by rfl) (by kernel_rfl) (by rfl) (VPure.pick_f rfl rfl rfl) ?_ | refine VOps.passv rfl (by kernel_rfl) rfl ?_))))
          refine VOps.bool (d := 189) rfl (fun b3 => ?_) (fun b3 => ?_)
          · subst b3
            obtain rfl := fL rfl
            (repeat (first | ((with_reducible refine VOps.same ?_); (first | (refine VOps.nil ?_; try dsimp only [VThen, VBlock]) | refine VOps.vp (by rfl) (by kernel_rfl) (by rfl) (VPure.move rfl rfl) ?_ | refine VOps.vp (by rfl) (by kernel_rfl) (by rfl) (VPure.idx_map rfl rfl rfl (by assumption)) ?_ | refine VOps.vv (by rfl) (by kernel_rfl) (by rfl) (VLoad.el1 rfl rfl rfl (by rfl)) ?_ | refine VOps.vp (by rfl) (by kernel_rfl) (by rfl) (VPure.pick_t rfl rfl rfl) ?_ | refine VOps.vp (by rfl) (by kernel_rfl) (by rfl) (VPure.pick_f rfl rfl rfl) ?_))))
            refine VCode.cond_f rfl rfl ?_
            (repeat (first | ((with_reducible refine VOps.same ?_); (first | (refine VOps.nil ?_; try dsimp only [VThen, VBlock]) | refine VOps.vp (by rfl) (by kernel_rfl) (by rfl) (VPure.move rfl rfl) ?_ | refine VOps.vp (by rfl) (by kernel_rfl) (by rfl) (VPure.assign rfl rfl) ?_ | refine VOps.vp (by rfl) (by kernel_rfl) (by rfl) (VPure.addK rfl rfl rfl (by omega)) ?_)) | refine VCode.region rfl ?_ | refine VCode.skip ?_))
            (refine Less.mk (l := [0]) hcx ?ss ?hh rfl (by decide) rfl ⟨_, ?_, a + 1, by omega, rfl, rfl⟩; (case ss => repeat (first | exact SubS.nil | refine SubS.cons rfl rfl ?_ | refine SubS.cons (congrArg (fun z => some (V.val (Value.int IntKind.i64 z))) (by omega)) rfl ?_ | refine SubS.cons (congrArg (fun z => some (V.val (Value.bool z))) (by assumption)) rfl ?_)); (case hh => repeat (first | exact SubH.nil | refine SubH.cons rfl rfl rfl ?_)))
            omega
          · subst b3
            (repeat (first | ((with_reducible refine VOps.same ?_); (first | (refine VOps.nil ?_; try dsimp only [VThen, VBlock]) | refine VOps.vp (by rfl) (by kernel_rfl) (by rfl) (VPure.pick_f rfl rfl rfl) ?_ | refine VOps.passv rfl (by kernel_rfl) rfl ?_))))
            refine VCode.cond_f rfl rfl ?_
            (repeat (first | ((with_reducible refine VOps.same ?_); (first | (refine VOps.nil ?_; try dsimp only [VThen, VBlock]) | refine VOps.vp (by rfl) (by kernel_rfl) (by rfl) (VPure.move rfl rfl) ?_ | refine VOps.vp (by rfl) (by kernel_rfl) (by rfl) (VPure.assign rfl rfl) ?_ | refine VOps.vp (by rfl) (by kernel_rfl) (by rfl) (VPure.addK rfl rfl rfl (by omega)) ?_)) | refine VCode.region rfl ?_ | refine VCode.skip ?_))
            (refine Less.mk (l := [0]) hcx ?ss ?hh rfl (by decide) rfl ⟨_, ?_, a + 1, by omega, rfl, rfl⟩; (case ss => repeat (first | exact SubS.nil | refine SubS.cons rfl rfl ?_ | refine SubS.cons (congrArg (fun z => some (V.val (Value.int IntKind.i64 z))) (by omega)) rfl ?_ | refine SubS.cons (congrArg (fun z => some (V.val (Value.bool z))) (by assumption)) rfl ?_)); (case hh => repeat (first | exact SubH.nil | refine SubH.cons rfl rfl rfl ?_)))
            omega
        · subst b2
          (repeat (first | ((with_reducible refine VOps.same ?_); (first | refine VOps.vp (by rfl) (by kernel_rfl) (by rfl) (VPure.move rfl rfl) ?_ | refine VOps.vp (by rfl) (by kernel_rfl) (by rfl) (VPure.idx_map rfl rfl rfl (by assumption)) ?_ | refine VOps.vv (by rfl) (by kernel_rfl) (by rfl) (VLoad.el1 rfl rfl rfl (by rfl)) ?_ | refine VOps.vp (by rfl) (by kernel_rfl) (by rfl) (VPure.pick_f rfl rfl rfl) ?_))))
          refine VOps.bool (d := 167) rfl (fun b3 => ?_) (fun b3 => ?_)
          · subst b3
            obtain rfl := fHR rfl
            obtain rfl : L = false := by cases L; rfl; exact absurd (fL rfl) (by simp)
            (repeat (first | ((with_reducible refine VOps.same ?_); (first | refine VOps.vp (by rfl) (by kernel_rfl) (by rfl) (VPure.move rfl rfl) ?_ | refine VOps.vp (by rfl) (by kernel_rfl) (by rfl) (VPure.idx_map rfl rfl rfl (by assumption)) ?_ | refine VOps.vv (by rfl) (by kernel_rfl) (by rfl) (VLoad.el1 rfl rfl rfl (by rfl)) ?_ | refine VOps.vp (by rfl) (by kernel_rfl) (by rfl) (VPure.not rfl rfl) ?_ | refine VOps.vp (by rfl) (by kernel_rfl) (by rfl) (VPure.pick_t rfl rfl rfl) ?_ | refine VOps.vp (by rfl) (by kernel_rfl) (by rfl) (VPure.pick_f rfl rfl rfl) ?_))))
            refine VOps.bool (d := 180) rfl (fun b4 => ?_) (fun b4 => ?_)
            · subst b4
              (repeat (first | ((with_reducible refine VOps.same ?_); (first | (refine VOps.nil ?_; try dsimp only [VThen, VBlock]) | refine VOps.vp (by rfl) (by kernel_rfl) (by rfl) (VPure.move rfl rfl) ?_ | refine VOps.vp (by rfl) (by kernel_rfl) (by rfl) (VPure.idx_map rfl rfl rfl (by assumption)) ?_ | refine VOps.vv (by rfl) (by kernel_rfl) (by rfl) (VLoad.el1 rfl rfl rfl (by rfl)) ?_ | refine VOps.vp (by rfl) (by kernel_rfl) (by rfl) (VPure.pick_t rfl rfl rfl) ?_ | refine VOps.vp (by rfl) (by kernel_rfl) (by rfl) (VPure.pick_f rfl rfl rfl) ?_ | refine VOps.passv rfl (by kernel_rfl) rfl ?_))))
              refine VCode.cond_f rfl rfl ?_
              (repeat (first | ((with_reducible refine VOps.same ?_); (first | (refine VOps.nil ?_; try dsimp only [VThen, VBlock]) | refine VOps.vp (by rfl) (by kernel_rfl) (by rfl) (VPure.move rfl rfl) ?_ | refine VOps.vp (by rfl) (by kernel_rfl) (by rfl) (VPure.assign rfl rfl) ?_ | refine VOps.vp (by rfl) (by kernel_rfl) (by rfl) (VPure.addK rfl rfl rfl (by omega)) ?_)) | refine VCode.region rfl ?_ | refine VCode.skip ?_))
              (refine Less.mk (l := [0]) hcx ?ss ?hh rfl (by decide) rfl ⟨_, ?_, a + 1, by omega, rfl, rfl⟩; (case ss => repeat (first | exact SubS.nil | refine SubS.cons rfl rfl ?_ | refine SubS.cons (congrArg (fun z => some (V.val (Value.int IntKind.i64 z))) (by omega)) rfl ?_ | refine SubS.cons (congrArg (fun z => some (V.val (Value.bool z))) (by assumption)) rfl ?_)); (case hh => repeat (first | exact SubH.nil | refine SubH.cons rfl rfl rfl ?_)))
              omega
            · subst b4
              (repeat (first | ((with_reducible refine VOps.same ?_); (first | (refine VOps.nil ?_; try dsimp only [VThen, VBlock]) | refine VOps.vp (by rfl) (by kernel_rfl) (by rfl) (VPure.move rfl rfl) ?_ | refine VOps.vp (by rfl) (by kernel_rfl) (by rfl) (VPure.pick_f rfl rfl rfl) ?_ | refine VOps.passv rfl (by kernel_rfl) rfl ?_))))
              refine VCode.cond_f rfl rfl ?_
              (repeat (first | ((with_reducible refine VOps.same ?_); (first | (refine VOps.nil ?_; try dsimp only [VThen, VBlock]) | refine VOps.vp (by rfl) (by kernel_rfl) (by rfl) (VPure.move rfl rfl) ?_ | refine VOps.vp (by rfl) (by kernel_rfl) (by rfl) (VPure.assign rfl rfl) ?_ | refine VOps.vp (by rfl) (by kernel_rfl) (by rfl) (VPure.addK rfl rfl rfl (by omega)) ?_)) | refine VCode.region rfl ?_ | refine VCode.skip ?_))
              (refine Less.mk (l := [0]) hcx ?ss ?hh rfl (by decide) rfl ⟨_, ?_, a + 1, by omega, rfl, rfl⟩; (case ss => repeat (first | exact SubS.nil | refine SubS.cons rfl rfl ?_ | refine SubS.cons (congrArg (fun z => some (V.val (Value.int IntKind.i64 z))) (by omega)) rfl ?_ | refine SubS.cons (congrArg (fun z => some (V.val (Value.bool z))) (by assumption)) rfl ?_)); (case hh => repeat (first | exact SubH.nil | refine SubH.cons rfl rfl rfl ?_)))
              omega
          · subst b3
            (repeat (first | ((with_reducible refine VOps.same ?_); (first | refine VOps.vp (by rfl) (by kernel_rfl) (by rfl) (VPure.move rfl rfl) ?_ | refine VOps.vp (by rfl) (by kernel_rfl) (by rfl) (VPure.pick_f rfl rfl rfl) ?_ | refine VOps.passv rfl (by kernel_rfl) rfl ?_))))
            refine VOps.bool (d := 180) rfl (fun b4 => ?_) (fun b4 => ?_)
            · subst b4
              (repeat (first | ((with_reducible refine VOps.same ?_); (first | refine VOps.vp (by rfl) (by kernel_rfl) (by rfl) (VPure.move rfl rfl) ?_ | refine VOps.vp (by rfl) (by kernel_rfl) (by rfl) (VPure.idx_map rfl rfl rfl (by assumption)) ?_ | refine VOps.vv (by rfl) (by kernel_rfl) (by rfl) (VLoad.el1 rfl rfl rfl (by rfl)) ?_ | refine VOps.vp (by rfl) (by kernel_rfl) (by rfl) (VPure.pick_t rfl rfl rfl) ?_ | refine VOps.vp (by rfl) (by kernel_rfl) (by rfl) (VPure.pick_f rfl rfl rfl) ?_))))
              refine VOps.bool (d := 189) rfl (fun b5 => ?_) (fun b5 => ?_)
              · subst b5
                (repeat (first | ((with_reducible refine VOps.same ?_); (first | (refine VOps.nil ?_; try dsimp only [VThen, VBlock]) | refine VOps.vp (by rfl) (by kernel_rfl) (by rfl) (VPure.move rfl rfl) ?_ | refine VOps.vp (by rfl) (by kernel_rfl) (by rfl) (VPure.idx_map rfl rfl rfl (by assumption)) ?_ | refine VOps.vv (by rfl) (by kernel_rfl) (by rfl) (VLoad.el1 rfl rfl rfl (by rfl)) ?_ | refine VOps.vp (by rfl) (by kernel_rfl) (by rfl) (VPure.pick_t rfl rfl rfl) ?_ | refine VOps.vp (by rfl) (by kernel_rfl) (by rfl) (VPure.pick_f rfl rfl rfl) ?_))))
                refine VCode.cond_f rfl rfl ?_
                (repeat (first | ((with_reducible refine VOps.same ?_); (first | (refine VOps.nil ?_; try dsimp only [VThen, VBlock]) | refine VOps.vp (by rfl) (by kernel_rfl) (by rfl) (VPure.move rfl rfl) ?_ | refine VOps.vp (by rfl) (by kernel_rfl) (by rfl) (VPure.assign rfl rfl) ?_ | refine VOps.vp (by rfl) (by kernel_rfl) (by rfl) (VPure.addK rfl rfl rfl (by omega)) ?_)) | refine VCode.region rfl ?_ | refine VCode.skip ?_))
                (refine Less.mk (l := [0]) hcx ?ss ?hh rfl (by decide) rfl ⟨_, ?_, a + 1, by omega, rfl, rfl⟩; (case ss => repeat (first | exact SubS.nil | refine SubS.cons rfl rfl ?_ | refine SubS.cons (congrArg (fun z => some (V.val (Value.int IntKind.i64 z))) (by omega)) rfl ?_ | refine SubS.cons (congrArg (fun z => some (V.val (Value.bool z))) (by assumption)) rfl ?_)); (case hh => repeat (first | exact SubH.nil | refine SubH.cons rfl rfl rfl ?_)))
                omega
              · subst b5
                (repeat (first | ((with_reducible refine VOps.same ?_); (first | (refine VOps.nil ?_; try dsimp only [VThen, VBlock]) | refine VOps.vp (by rfl) (by kernel_rfl) (by rfl) (VPure.pick_f rfl rfl rfl) ?_ | refine VOps.passv rfl (by kernel_rfl) rfl ?_))))
                refine VCode.cond_f rfl rfl ?_
                (repeat (first | ((with_reducible refine VOps.same ?_); (first | (refine VOps.nil ?_; try dsimp only [VThen, VBlock]) | refine VOps.vp (by rfl) (by kernel_rfl) (by rfl) (VPure.move rfl rfl) ?_ | refine VOps.vp (by rfl) (by kernel_rfl) (by rfl) (VPure.assign rfl rfl) ?_ | refine VOps.vp (by rfl) (by kernel_rfl) (by rfl) (VPure.addK rfl rfl rfl (by omega)) ?_)) | refine VCode.region rfl ?_ | refine VCode.skip ?_))
                (refine Less.mk (l := [0]) hcx ?ss ?hh rfl (by decide) rfl ⟨_, ?_, a + 1, by omega, rfl, rfl⟩; (case ss => repeat (first | exact SubS.nil | refine SubS.cons rfl rfl ?_ | refine SubS.cons (congrArg (fun z => some (V.val (Value.int IntKind.i64 z))) (by omega)) rfl ?_ | refine SubS.cons (congrArg (fun z => some (V.val (Value.bool z))) (by assumption)) rfl ?_)); (case hh => repeat (first | exact SubH.nil | refine SubH.cons rfl rfl rfl ?_)))
                omega
            · subst b4
              (repeat (first | ((with_reducible refine VOps.same ?_); (first | refine VOps.vp (by rfl) (by kernel_rfl) (by rfl) (VPure.move rfl rfl) ?_ | refine VOps.vp (by rfl) (by kernel_rfl) (by rfl) (VPure.pick_f rfl rfl rfl) ?_ | refine VOps.passv rfl (by kernel_rfl) rfl ?_))))
              refine VOps.bool (d := 189) rfl (fun b5 => ?_) (fun b5 => ?_)
              · subst b5
                (repeat (first | ((with_reducible refine VOps.same ?_); (first | (refine VOps.nil ?_; try dsimp only [VThen, VBlock]) | refine VOps.vp (by rfl) (by kernel_rfl) (by rfl) (VPure.move rfl rfl) ?_ | refine VOps.vp (by rfl) (by kernel_rfl) (by rfl) (VPure.idx_map rfl rfl rfl (by assumption)) ?_ | refine VOps.vv (by rfl) (by kernel_rfl) (by rfl) (VLoad.el1 rfl rfl rfl (by rfl)) ?_ | refine VOps.vp (by rfl) (by kernel_rfl) (by rfl) (VPure.pick_t rfl rfl rfl) ?_ | refine VOps.vp (by rfl) (by kernel_rfl) (by rfl) (VPure.pick_f rfl rfl rfl) ?_))))
                refine VCode.cond_f rfl rfl ?_
                (repeat (first | ((with_reducible refine VOps.same ?_); (first | (refine VOps.nil ?_; try dsimp only [VThen, VBlock]) | refine VOps.vp (by rfl) (by kernel_rfl) (by rfl) (VPure.move rfl rfl) ?_ | refine VOps.vp (by rfl) (by kernel_rfl) (by rfl) (VPure.assign rfl rfl) ?_ | refine VOps.vp (by rfl) (by kernel_rfl) (by rfl) (VPure.addK rfl rfl rfl (by omega)) ?_)) | refine VCode.region rfl ?_ | refine VCode.skip ?_))
                (refine Less.mk (l := [0]) hcx ?ss ?hh rfl (by decide) rfl ⟨_, ?_, a + 1, by omega, rfl, rfl⟩; (case ss => repeat (first | exact SubS.nil | refine SubS.cons rfl rfl ?_ | refine SubS.cons (congrArg (fun z => some (V.val (Value.int IntKind.i64 z))) (by omega)) rfl ?_ | refine SubS.cons (congrArg (fun z => some (V.val (Value.bool z))) (by assumption)) rfl ?_)); (case hh => repeat (first | exact SubH.nil | refine SubH.cons rfl rfl rfl ?_)))
                omega
              · subst b5
                (repeat (first | ((with_reducible refine VOps.same ?_); (first | (refine VOps.nil ?_; try dsimp only [VThen, VBlock]) | refine VOps.vp (by rfl) (by kernel_rfl) (by rfl) (VPure.pick_f rfl rfl rfl) ?_ | refine VOps.passv rfl (by kernel_rfl) rfl ?_))))
                refine VCode.cond_f rfl rfl ?_
                (repeat (first | ((with_reducible refine VOps.same ?_); (first | (refine VOps.nil ?_; try dsimp only [VThen, VBlock]) | refine VOps.vp (by rfl) (by kernel_rfl) (by rfl) (VPure.move rfl rfl) ?_ | refine VOps.vp (by rfl) (by kernel_rfl) (by rfl) (VPure.assign rfl rfl) ?_ | refine VOps.vp (by rfl) (by kernel_rfl) (by rfl) (VPure.addK rfl rfl rfl (by omega)) ?_)) | refine VCode.region rfl ?_ | refine VCode.skip ?_))
                (refine Less.mk (l := [0]) hcx ?ss ?hh rfl (by decide) rfl ⟨_, ?_, a + 1, by omega, rfl, rfl⟩; (case ss => repeat (first | exact SubS.nil | refine SubS.cons rfl rfl ?_ | refine SubS.cons (congrArg (fun z => some (V.val (Value.int IntKind.i64 z))) (by omega)) rfl ?_ | refine SubS.cons (congrArg (fun z => some (V.val (Value.bool z))) (by assumption)) rfl ?_)); (case hh => repeat (first | exact SubH.nil | refine SubH.cons rfl rfl rfl ?_)))
                omega
    · (repeat (first | ((with_reducible refine VOps.same ?_); (first | (refine VOps.nil ?_; try dsimp only [VThen, VBlock]) | refine VOps.vp (by rfl) (by kernel_rfl) (by rfl) (VPure.move rfl rfl) ?_ | refine VOps.vp (by rfl) (by kernel_rfl) (by rfl) (VPure.lss rfl rfl rfl) ?_)) | refine VCode.seq ?_ | refine VCode.region rfl ?_))
      refine VCode.cond_f rfl (decide_eq_false (by omega)) ?_
      (repeat (first | refine VCode.seq ?_ | refine VCode.region rfl ?_ | refine VCode.exit ?_))
      refine VOps.lit (rows := []) rfl rfl (by kernel_rfl) rfl (by kernel_rfl) (by rfl) (by decide) (by decide) rfl (by rfl) (by rfl) (by rfl) (by rfl) ?_
      (repeat (first | ((with_reducible refine VOps.same ?_); (first | refine VOps.vp (by rfl) (by kernel_rfl) (by rfl) (VPure.move rfl rfl) ?_))))
      refine VOps.append (zs := w.map encP) rfl rfl (by kernel_rfl) rfl (by rfl) (by decide) rfl (.arr rfl) rfl (.sl) (by simp only [List.length_append, List.length_cons, List.length_nil, List.length_map]; unfold most; omega) (by simp only [List.length_append, List.length_cons, List.length_nil, List.length_map]; unfold most; omega) rfl ( by simp) ?_
      (repeat (first | ((with_reducible refine VOps.same ?_); (first | refine VOps.vp (by rfl) (by kernel_rfl) (by rfl) (VPure.move rfl rfl) ?_))))
      refine VOps.append (zs := (w ++ innerS g w).map encP) rfl rfl (by kernel_rfl) rfl (by rfl) (by decide) rfl (.arr rfl) rfl (.sl) (by simp only [List.length_append, List.length_cons, List.length_nil, List.length_map]; unfold most; omega) (by simp only [List.length_append, List.length_cons, List.length_nil, List.length_map]; unfold most; omega) rfl ( by rw [List.map_append]) ?_
      (repeat (first | ((with_reducible refine VOps.same ?_); (first | (refine VOps.nil ?_; try dsimp only [VThen, VBlock]) | refine VOps.vp (by rfl) (by kernel_rfl) (by rfl) (VPure.move rfl rfl) ?_ | refine VOps.vp (by rfl) (by kernel_rfl) (by rfl) (VPure.assign rfl rfl) ?_ | refine VOps.vv (by rfl) (by kernel_rfl) (by rfl) (VLoad.boxA rfl rfl rfl (by rfl) (Nat.le_of_ble_eq_true (by rfl)) (by decide)) ?_)) | refine VCode.seq ?_ | refine VCode.region rfl ?_))
      refine VOps.freeze (id := 3) rfl ?_
      skip
      refine VOps.gives rfl Try.func30 rfl (by kernel_rfl) rfl rfl rfl rfl rfl rfl rfl rfl (left_v g (w ++ innerS g w) hg (by rw [List.length_append]; omega)) ?_
      (repeat (first | ((with_reducible refine VOps.same ?_); (first | (refine VOps.nil ?_; try dsimp only [VThen, VBlock]) | refine VOps.vp (by rfl) (by kernel_rfl) (by rfl) (VPure.assign rfl rfl) ?_)) | refine VCode.block ?_))
      refine VCode.loop (fun m st => ∃ a : Nat, a ≤ g.names.length ∧ m = g.names.length - a ∧ st = ⟨[(16, .val (.int .i64 (a : Int))), (17, .sl 1 ((eachOf g (w ++ innerS g w) soL).map encB))], [(0, gO g)], 1⟩) g.names.length ?_ ?_
      · (refine Less.mk (l := [0]) hcx ?ss ?hh rfl (by decide) rfl ⟨0, by omega, by omega, rfl⟩; (case ss => repeat (first | exact SubS.nil | refine SubS.cons rfl rfl ?_ | refine SubS.cons (congrArg (fun z => some (V.val (Value.int IntKind.i64 z))) (by omega)) rfl ?_ | refine SubS.cons (congrArg (fun z => some (V.val (Value.bool z))) (by assumption)) rfl ?_)); (case hh => repeat (first | exact SubH.nil | refine SubH.cons rfl rfl rfl ?_)))
      clear ha hal
      rintro m st ⟨a, ha, rfl, rfl⟩
      by_cases hal : a < g.names.length
      · have xN := eC_get hG (w ++ innerS g w) soL hal
        rw [eC_none hG] at xN
        (repeat (first | ((with_reducible refine VOps.same ?_); (first | (refine VOps.nil ?_; try dsimp only [VThen, VBlock]) | refine VOps.vp (by rfl) (by kernel_rfl) (by rfl) (VPure.move rfl rfl) ?_ | refine VOps.vp (by rfl) (by kernel_rfl) (by rfl) (VPure.len_map TI.und' rfl rfl) ?_ | refine VOps.vp (by rfl) (by kernel_rfl) (by rfl) (VPure.lss rfl rfl rfl) ?_)) | refine VCode.seq ?_ | refine VCode.region rfl ?_))
        refine VCode.cond_t rfl (decide_eq_true (by rw [lN]; omega)) ?_
        (repeat (first | ((with_reducible refine VOps.same ?_); (first | (refine VOps.nil ?_; try dsimp only [VThen, VBlock]) | refine VOps.vp (by rfl) (by kernel_rfl) (by rfl) (VPure.move rfl rfl) ?_ | refine VOps.vp (by rfl) (by kernel_rfl) (by rfl) (VPure.idx_map rfl rfl rfl (by assumption)) ?_ | refine VOps.vv (by rfl) (by kernel_rfl) (by rfl) (VLoad.el1 rfl rfl rfl (by rfl)) ?_)) | refine VCode.seq ?_ | refine VCode.region rfl ?_ | refine VCode.block ?_ | refine VCode.skip ?_))
        refine VCode.cond_f rfl rfl ?_
        (repeat (first | ((with_reducible refine VOps.same ?_); (first | (refine VOps.nil ?_; try dsimp only [VThen, VBlock]) | refine VOps.vp (by rfl) (by kernel_rfl) (by rfl) (VPure.move rfl rfl) ?_ | refine VOps.vp (by rfl) (by kernel_rfl) (by rfl) (VPure.assign rfl rfl) ?_ | refine VOps.vp (by rfl) (by kernel_rfl) (by rfl) (VPure.addK rfl rfl rfl (by omega)) ?_)) | refine VCode.region rfl ?_ | refine VCode.skip ?_))
        (refine Less.mk (l := [0]) hcx ?ss ?hh rfl (by decide) rfl ⟨_, ?_, a + 1, by omega, rfl, rfl⟩; (case ss => repeat (first | exact SubS.nil | refine SubS.cons rfl rfl ?_ | refine SubS.cons (congrArg (fun z => some (V.val (Value.int IntKind.i64 z))) (by omega)) rfl ?_ | refine SubS.cons (congrArg (fun z => some (V.val (Value.bool z))) (by assumption)) rfl ?_)); (case hh => repeat (first | exact SubH.nil | refine SubH.cons rfl rfl rfl ?_)))
        omega
      · (repeat (first | ((with_reducible refine VOps.same ?_); (first | (refine VOps.nil ?_; try dsimp only [VThen, VBlock]) | refine VOps.vp (by rfl) (by kernel_rfl) (by rfl) (VPure.move rfl rfl) ?_ | refine VOps.vp (by rfl) (by kernel_rfl) (by rfl) (VPure.len_map TI.und' rfl rfl) ?_ | refine VOps.vp (by rfl) (by kernel_rfl) (by rfl) (VPure.lss rfl rfl rfl) ?_)) | refine VCode.seq ?_ | refine VCode.region rfl ?_))
        refine VCode.cond_f rfl (decide_eq_false (by rw [lN]; omega)) ?_
        (repeat (first | refine VCode.seq ?_ | refine VCode.region rfl ?_ | refine VCode.exit ?_))
        refine VOps.pure rfl Try.func29 rfl (by kernel_rfl) rfl rfl rfl rfl rfl rfl rfl (ewakes_v) ?_
        (repeat (first | ((with_reducible refine VOps.same ?_); (first | (refine VOps.nil ?_; try dsimp only [VThen, VBlock]) | refine VOps.vp (by rfl) (by kernel_rfl) (by rfl) (VPure.assign rfl rfl) ?_))))
        refine VCode.retD rfl rfl (.tmp rfl .nil) ?_
        rfl
-- LAW EmbedHolds eholds_law agg:open_gr open_spots
theorem eholds_law (g : Gr) (gg : goodGr g) (w : List Spot) (gw : goodSps w) : VCalls Try.prog 10 [.agg ((encG g).map D.toV), .sl 2 (w.map encP)] [] 0 (Gives (.val (.bool true))) :=
  have h : reachBytes < 140737488355328 := reachBytes_lt
  eholds_v g w (by have := gw.2; omega)
end Go.Proofs.Ytfjfbapiheehaaa.V
end

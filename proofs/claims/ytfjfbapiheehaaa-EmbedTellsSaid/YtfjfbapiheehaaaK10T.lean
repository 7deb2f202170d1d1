/- What T needs of this session's own texts, part 10: put together by wip/dce.py. -/
import Derived.Test.YtfjfbapiheehaaaK9T
section
set_option linter.unusedVariables false
set_option linter.unusedSimpArgs false
namespace Go.Proofs.Ytfjfbapiheehaaa.V
open Go Go.RowKit
theorem lefts_succ {g : Gr} {k : Nat} {r : Ru} (h : g.rules[k]? = some r) : ((g.rules.take (k + 1)).map Ru.left) = (g.rules.take k).map Ru.left ++ [r.left] := by
 rw [List.take_add_one, h, List.map_append]; rfl
theorem rise_step {l : List Int} {n f f' : Int} (hf : rise f l = some f') : rise f (l ++ [n]) = if f' < n then none else some (if n = f' then f' + 1 else f') := by
 rw [rise_append, hf]; simp [rise]
theorem rise_no {a b : List Int} {f : Int} (h : rise f a = none) : rise f (a ++ b) = none := by rw [rise_append, h]; rfl
section
variable {P : Program} {n : Nat} {cx : Cx} {Q : VExit → St → Prop} {st : St}
theorem VCode.thenI {x y : Code} (I : St → Prop) (h : VCode P n cx x (VThen (Less cx I) Q) st) (h2 : ∀ st, I st → VCode P n cx y Q st) : VCode P n cx x (VThen (VCode P n cx y Q) Q) st :=
 h.mono fun e s hq => by
  cases e with
  | normal => exact VCode.less (let ⟨l, s', a, b, c, d⟩ := hq; ⟨l, s', a, b, c, h2 s' d⟩)
  | exit id => exact hq
  | ret => exact hq
  | panic c => exact hq
end
theorem tsyms_lenTo {g : Gr} {k : Nat} (h : ∀ i r, i < k → g.rules[i]? = some r → okRule g i r) : (tsyms g (g.rules.take k)).length ≤ 8 * k := by
 induction k with
 | zero => simp [tsyms]
 | succ k ih =>
  have ih := ih (fun i r hi => h i r (by omega))
  cases hq : g.rules[k]? with
  | none =>
   rw [List.take_add_one, hq]
   simp only [Option.toList_none, List.append_nil]
   omega
  | some r =>
   rw [tsyms_succ hq, List.length_append]
   have h1 := (h k r (by omega) hq).2.2.1
   have h2 := List.length_filter_le (isT g) r.right
   omega
set_option maxHeartbeats 8000000 in
theorem rgood_v (g : Gr) (hg : Sized g) : VCalls Try.prog 26 [gV g] [] 0 (Gives (.val (.bool (decide (GoodG g))))) := by
 have ht := hg.terms
 have hn := hg.names
 have hr := hg.rules
 refine VCalls.enterD (n := 192) Try.func26 rfl rfl (by simp) rfl (fun cx hcx => ?_)
 (repeat (first | ((with_reducible refine VOps.same ?_); (first | (refine VOps.nil ?_; try dsimp only [VThen, VBlock]) | refine VOps.vP (VPure.move rfl rfl) ?_ | refine VOps.vP (VPure.assign rfl rfl) ?_ | refine VOps.vP (VPure.len_map TI.und' rfl rfl) ?_ | refine VOps.vP (VPure.field_ptr rfl rfl rfl) ?_ | refine VOps.vV (VLoad.box1 rfl rfl rfl rfl (by rfl) (by decide)) ?_ | refine VOps.vP (VPure.lss rfl rfl rfl) ?_ | refine VOps.box rfl rfl (by kernel_rfl) rfl rfl rfl rfl ?_)) | refine VCode.seq ?_ | refine VCode.region rfl ?_ | refine VCode.draw [] rfl ?_))
 refine VOps.bool (d := 21) rfl (fun a1 => ?_) (fun a1 => ?_)
 ·(repeat (first | ((with_reducible refine VOps.same ?_); (first | (refine VOps.nil ?_; try dsimp only [VThen, VBlock]) | refine VOps.vP (VPure.move rfl rfl) ?_ | refine VOps.vP (VPure.pick_t rfl rfl rfl) ?_ | refine VOps.passv rfl (by kernel_rfl) rfl ?_))))
  refine VCode.cond_t rfl rfl ?_
  (repeat (first | ((with_reducible refine VOps.same ?_); (first | (refine VOps.nil ?_; try dsimp only [VThen, VBlock]) | refine VOps.vP (VPure.assign rfl rfl) ?_)) | refine VCode.seq ?_ | refine VCode.region rfl ?_))
  refine VCode.retD rfl rfl (.tmp rfl .nil) ?_
  rw [decide_eq_false (p := GoodG g) (fun h => by have := h.names.2.1; have := of_decide_eq_true a1; omega)]; rfl
 have a1 := of_decide_eq_false a1
 (repeat (first | ((with_reducible refine VOps.same ?_); (first | refine VOps.vP (VPure.move rfl rfl) ?_ | refine VOps.vP (VPure.gtr rfl rfl rfl) ?_ | refine VOps.vP (VPure.pick_f rfl rfl rfl) ?_))))
 refine VOps.bool (d := 25) rfl (fun a2 => ?_) (fun a2 => ?_)
 ·(repeat (first | ((with_reducible refine VOps.same ?_); (first | (refine VOps.nil ?_; try dsimp only [VThen, VBlock]) | refine VOps.vP (VPure.move rfl rfl) ?_ | refine VOps.vP (VPure.pick_t rfl rfl rfl) ?_ | refine VOps.passv rfl (by kernel_rfl) rfl ?_))))
  refine VCode.cond_t rfl rfl ?_
  (repeat (first | ((with_reducible refine VOps.same ?_); (first | (refine VOps.nil ?_; try dsimp only [VThen, VBlock]) | refine VOps.vP (VPure.assign rfl rfl) ?_)) | refine VCode.seq ?_ | refine VCode.region rfl ?_))
  refine VCode.retD rfl rfl (.tmp rfl .nil) ?_
  rw [decide_eq_false (p := GoodG g) (fun h => by have := h.names.2.2; have := of_decide_eq_true a2; omega)]; rfl
 have a2 := of_decide_eq_false a2
 (repeat (first | ((with_reducible refine VOps.same ?_); (first | refine VOps.vP (VPure.move rfl rfl) ?_ | refine VOps.vP (VPure.gtr rfl rfl rfl) ?_ | refine VOps.vP (VPure.pick_f rfl rfl rfl) ?_))))
 refine VOps.bool (d := 29) rfl (fun a3 => ?_) (fun a3 => ?_)
 ·(repeat (first | ((with_reducible refine VOps.same ?_); (first | (refine VOps.nil ?_; try dsimp only [VThen, VBlock]) | refine VOps.vP (VPure.move rfl rfl) ?_ | refine VOps.vP (VPure.pick_t rfl rfl rfl) ?_ | refine VOps.passv rfl (by kernel_rfl) rfl ?_))))
  refine VCode.cond_t rfl rfl ?_
  (repeat (first | ((with_reducible refine VOps.same ?_); (first | (refine VOps.nil ?_; try dsimp only [VThen, VBlock]) | refine VOps.vP (VPure.assign rfl rfl) ?_)) | refine VCode.seq ?_ | refine VCode.region rfl ?_))
  refine VCode.retD rfl rfl (.tmp rfl .nil) ?_
  rw [decide_eq_false (p := GoodG g) (fun h => by have := h.terms.2.2; have := of_decide_eq_true a3; omega)]; rfl
 have a3 := of_decide_eq_false a3
 (repeat (first | ((with_reducible refine VOps.same ?_); (first | refine VOps.vP (VPure.move rfl rfl) ?_ | refine VOps.vP (VPure.len_map TI.und' rfl rfl) ?_ | refine VOps.vP (VPure.field_ptr rfl rfl rfl) ?_ | refine VOps.vV (VLoad.box1 rfl rfl rfl rfl (by rfl) (by decide)) ?_ | refine VOps.vP (VPure.lss rfl rfl rfl) ?_ | refine VOps.vP (VPure.pick_f rfl rfl rfl) ?_))))
 refine VOps.bool (d := 35) rfl (fun a4 => ?_) (fun a4 => ?_)
 ·(repeat (first | ((with_reducible refine VOps.same ?_); (first | (refine VOps.nil ?_; try dsimp only [VThen, VBlock]) | refine VOps.vP (VPure.pick_t rfl rfl rfl) ?_ | refine VOps.passv rfl (by kernel_rfl) rfl ?_))))
  refine VCode.cond_t rfl rfl ?_
  (repeat (first | ((with_reducible refine VOps.same ?_); (first | (refine VOps.nil ?_; try dsimp only [VThen, VBlock]) | refine VOps.vP (VPure.assign rfl rfl) ?_)) | refine VCode.seq ?_ | refine VCode.region rfl ?_))
  refine VCode.retD rfl rfl (.tmp rfl .nil) ?_
  rw [decide_eq_false (p := GoodG g) (fun h => by have := h.rules.1; have := of_decide_eq_true a4; omega)]; rfl
 have a4 := of_decide_eq_false a4
 (repeat (first | ((with_reducible refine VOps.same ?_); (first | (refine VOps.nil ?_; try dsimp only [VThen, VBlock]) | refine VOps.vP (VPure.len_map TI.und' rfl rfl) ?_ | refine VOps.vP (VPure.field_ptr rfl rfl rfl) ?_ | refine VOps.vV (VLoad.box1 rfl rfl rfl rfl (by rfl) (by decide)) ?_ | refine VOps.vP (VPure.gtr rfl rfl rfl) ?_ | refine VOps.vP (VPure.pick_f rfl rfl rfl) ?_))))
 refine VCode.cond rfl (fun a5 => ?_) (fun a5 => ?_)
 ·(repeat (first | ((with_reducible refine VOps.same ?_); (first | (refine VOps.nil ?_; try dsimp only [VThen, VBlock]) | refine VOps.vP (VPure.assign rfl rfl) ?_)) | refine VCode.seq ?_ | refine VCode.region rfl ?_))
  refine VCode.retD rfl rfl (.tmp rfl .nil) ?_
  rw [decide_eq_false (p := GoodG g) (fun h => by have := h.rules.2.1; have := of_decide_eq_true a5; omega)]; rfl
 have a5 := of_decide_eq_false a5
 (repeat (first | ((with_reducible refine VOps.same ?_); (first | (refine VOps.nil ?_; try dsimp only [VThen, VBlock]) | refine VOps.vP (VPure.assign rfl rfl) ?_)) | refine VCode.seq ?_ | refine VCode.region rfl ?_ | refine VCode.block ?_ | refine VCode.skip ?_))
 refine VCode.loop (fun m st => ∃ k : Nat, k ≤ g.names.length ∧ m = g.names.length - k ∧ okTo isName g.names k ∧ st = ⟨[(5, .val (.int .i64 (k : Int))), (4, .val (.int .i64 (g.names.length : Int))), (3, .val (.int .i64 (g.terms.length : Int))), (1, .ptr 0 0)], [(0, gO g)], 1⟩) g.names.length ?_ ?_
 ·(refine Less.mk (l := [0]) hcx ?ss ?hh rfl (by decide) rfl ⟨0, by omega, by omega, okTo_zero _ _, rfl⟩; (case ss => repeat (first | exact SubS.nil | refine SubS.cons rfl rfl ?_ | refine SubS.cons (ciI (by omega)) rfl ?_ | refine SubS.cons (ciB (by assumption)) rfl ?_)); (case hh => repeat (first | exact SubH.nil | refine SubH.cons rfl rfl rfl ?_)))
 rintro m st ⟨k, hk, rfl, hb, rfl⟩
 cases hq : g.names[k]? with
 | some y =>
  have hlt : k < g.names.length := (List.getElem?_eq_some_iff.1 hq).1
  have hy := hg.nsize y (List.mem_of_getElem? hq)
  (repeat (first | ((with_reducible refine VOps.same ?_); (first | (refine VOps.nil ?_; try dsimp only [VThen, VBlock]) | refine VOps.vP (VPure.move rfl rfl) ?_ | refine VOps.vP (VPure.lss rfl rfl rfl) ?_)) | refine VCode.seq ?_ | refine VCode.region rfl ?_))
  refine VCode.cond_t rfl (decide_eq_true (by omega)) ?_
  cases b1 : isName y with
  | false =>
   (repeat (first | ((with_reducible refine VOps.same ?_); (first | refine VOps.vP (VPure.move rfl rfl) ?_ | refine VOps.vP (VPure.idx_map rfl rfl rfl (by assumption)) ?_ | refine VOps.vP (VPure.field_ptr rfl rfl rfl) ?_ | refine VOps.vV (VLoad.el1 rfl rfl rfl (by rfl)) ?_ | refine VOps.vV (VLoad.box1 rfl rfl rfl rfl (by rfl) (by decide)) ?_)) | refine VCode.seq ?_ | refine VCode.draw [] rfl ?_ | refine VCode.block ?_ | refine VCode.skip ?_))
   refine VOps.pure rfl Try.func43 rfl (by kernel_rfl) rfl rfl rfl rfl rfl rfl rfl ((by have := rname_v y hy; rw [b1] at this; exact this)) ?_
   (repeat (first | ((with_reducible refine VOps.same ?_); (first | (refine VOps.nil ?_; try dsimp only [VThen, VBlock]) | refine VOps.vP (VPure.move rfl rfl) ?_ | refine VOps.vP (VPure.not rfl rfl) ?_ | refine VOps.vP (VPure.pick_t rfl rfl rfl) ?_ | refine VOps.passv rfl (by kernel_rfl) rfl ?_))))
   refine VCode.cond_t rfl rfl ?_
   (repeat (first | ((with_reducible refine VOps.same ?_); (first | (refine VOps.nil ?_; try dsimp only [VThen, VBlock]) | refine VOps.vP (VPure.assign rfl rfl) ?_)) | refine VCode.seq ?_ | refine VCode.region rfl ?_))
   refine VCode.retD rfl rfl (.tmp rfl .nil) ?_
   rw [decide_eq_false (p := GoodG g) (fun h => by rw [(h.names.1 k y hq).1] at b1; cases b1)]; rfl
  | true =>
   (repeat (first | refine VCode.seq ?_ | refine VCode.block ?_ | refine VCode.skip ?_))
   refine VCode.thenTo ⟨[(64, .val (.bool (!decide (firstAt (fun x => decide (x = y)) g.names = (k : Int))))), (5, .val (.int .i64 (k : Int))), (4, .val (.int .i64 (g.names.length : Int))), (3, .val (.int .i64 (g.terms.length : Int))), (1, .ptr 0 0)], [(0, gO g)], 1⟩ ?_ ?_
   ·refine VCode.drawAny [] (by kernel_rfl) rfl ?_
    refine VAny.pureI (i := 0) rfl rfl (by kernel_rfl) rfl (VPure.field_ptr rfl rfl rfl) ?_
    refine VAny.loadI (i := 1) rfl rfl (by kernel_rfl) rfl (VLoad.box1 rfl rfl rfl rfl (by rfl) (by decide)) ?_
    refine VAny.pureI (i := 2) rfl rfl (by kernel_rfl) rfl (VPure.move rfl rfl) ?_
    refine VAny.pureI (i := 3) rfl rfl (by kernel_rfl) rfl (VPure.idx_map rfl rfl rfl (by assumption)) ?_
    refine VAny.loadI (i := 4) rfl rfl (by kernel_rfl) rfl (VLoad.el1 rfl rfl rfl (by rfl)) ?_
    refine VAny.movesI (is := [5]) (by kernel_rfl) (by simp) rfl (all1 ?_)
    ·refine VMv.pure rfl rfl Try.func43 rfl rfl rfl rfl rfl rfl rfl rfl ((by have := rname_v y hy; rw [b1] at this; exact this)) ?_
     refine VAny.pureI (i := 6) rfl rfl (by kernel_rfl) rfl (VPure.not rfl rfl) ?_
     refine VAny.pureI (i := 7) rfl rfl (by kernel_rfl) rfl (VPure.move rfl rfl) ?_
     refine VAny.pureI (i := 8) rfl rfl (by kernel_rfl) rfl (VPure.field_ptr rfl rfl rfl) ?_
     refine VAny.pureI (i := 10) rfl rfl (by kernel_rfl) rfl (VPure.field_ptr rfl rfl rfl) ?_
     refine VAny.pureI (i := 12) rfl rfl (by kernel_rfl) rfl (VPure.move rfl rfl) ?_
     refine VAny.pureI (i := 16) rfl rfl (by kernel_rfl) rfl (VPure.move rfl rfl) ?_
     refine VAny.movesI (is := [9, 11]) (by kernel_rfl) (by simp) rfl (allC ?_ (all1 ?_))
     ·refine VMv.load rfl rfl rfl (VLoad.box1 rfl rfl rfl rfl (by rfl) (by decide)) ?_
      refine VAny.movesI (is := [11]) (by kernel_rfl) (by simp) rfl (all1 ?_)
      ·refine VMv.load rfl rfl rfl (VLoad.box1 rfl rfl rfl rfl (by rfl) (by decide)) ?_
       refine VAny.pureI (i := 13) rfl rfl (by kernel_rfl) rfl (VPure.idx_map rfl rfl rfl (by assumption)) ?_
       refine VAny.movesI (is := [14]) (by kernel_rfl) (by simp) rfl (all1 ?_)
       ·refine VMv.load rfl rfl rfl (VLoad.el1 rfl rfl rfl (by rfl)) ?_
        refine VAny.movesI (is := [15]) (by kernel_rfl) (by simp) rfl (all1 ?_)
        ·refine VMv.pure rfl rfl Try.func44 rfl rfl rfl rfl rfl rfl rfl rfl (at_v g.names y (by omega)) ?_
         refine VAny.pureI (i := 17) rfl rfl (by kernel_rfl) rfl (VPure.nei rfl rfl rfl) ?_
         refine VAny.pureI (i := 18) rfl rfl (by kernel_rfl) rfl (VPure.pick_f rfl rfl rfl) ?_
         refine VAny.done ?_
         (refine Less.mk (l := [0]) hcx ?ss ?hh rfl (by decide) rfl rfl; (case ss => repeat (first | exact SubS.nil | refine SubS.cons rfl rfl ?_ | refine SubS.cons (ciI (by omega)) rfl ?_ | refine SubS.cons (ciB (by assumption)) rfl ?_)); (case hh => repeat (first | exact SubH.nil | refine SubH.cons rfl rfl rfl ?_)))
     ·refine VMv.load rfl rfl rfl (VLoad.box1 rfl rfl rfl rfl (by rfl) (by decide)) ?_
      refine VAny.pureI (i := 13) rfl rfl (by kernel_rfl) rfl (VPure.idx_map rfl rfl rfl (by assumption)) ?_
      refine VAny.movesI (is := [9, 14]) (by kernel_rfl) (by simp) rfl (allC ?_ (all1 ?_))
      ·refine VMv.load rfl rfl rfl (VLoad.box1 rfl rfl rfl rfl (by rfl) (by decide)) ?_
       refine VAny.movesI (is := [14]) (by kernel_rfl) (by simp) rfl (all1 ?_)
       ·refine VMv.load rfl rfl rfl (VLoad.el1 rfl rfl rfl (by rfl)) ?_
        refine VAny.movesI (is := [15]) (by kernel_rfl) (by simp) rfl (all1 ?_)
        ·refine VMv.pure rfl rfl Try.func44 rfl rfl rfl rfl rfl rfl rfl rfl (at_v g.names y (by omega)) ?_
         refine VAny.pureI (i := 17) rfl rfl (by kernel_rfl) rfl (VPure.nei rfl rfl rfl) ?_
         refine VAny.pureI (i := 18) rfl rfl (by kernel_rfl) rfl (VPure.pick_f rfl rfl rfl) ?_
         refine VAny.done ?_
         (refine Less.mk (l := [0]) hcx ?ss ?hh rfl (by decide) rfl rfl; (case ss => repeat (first | exact SubS.nil | refine SubS.cons rfl rfl ?_ | refine SubS.cons (ciI (by omega)) rfl ?_ | refine SubS.cons (ciB (by assumption)) rfl ?_)); (case hh => repeat (first | exact SubH.nil | refine SubH.cons rfl rfl rfl ?_)))
      ·refine VMv.load rfl rfl rfl (VLoad.el1 rfl rfl rfl (by rfl)) ?_
       refine VAny.movesI (is := [9]) (by kernel_rfl) (by simp) rfl (all1 ?_)
       ·refine VMv.load rfl rfl rfl (VLoad.box1 rfl rfl rfl rfl (by rfl) (by decide)) ?_
        refine VAny.movesI (is := [15]) (by kernel_rfl) (by simp) rfl (all1 ?_)
        ·refine VMv.pure rfl rfl Try.func44 rfl rfl rfl rfl rfl rfl rfl rfl (at_v g.names y (by omega)) ?_
         refine VAny.pureI (i := 17) rfl rfl (by kernel_rfl) rfl (VPure.nei rfl rfl rfl) ?_
         refine VAny.pureI (i := 18) rfl rfl (by kernel_rfl) rfl (VPure.pick_f rfl rfl rfl) ?_
         refine VAny.done ?_
         (refine Less.mk (l := [0]) hcx ?ss ?hh rfl (by decide) rfl rfl; (case ss => repeat (first | exact SubS.nil | refine SubS.cons rfl rfl ?_ | refine SubS.cons (ciI (by omega)) rfl ?_ | refine SubS.cons (ciB (by assumption)) rfl ?_)); (case hh => repeat (first | exact SubH.nil | refine SubH.cons rfl rfl rfl ?_)))
   refine VCode.cond rfl (fun b2 => ?_) (fun b2 => ?_)
   ·(repeat (first | ((with_reducible refine VOps.same ?_); (first | (refine VOps.nil ?_; try dsimp only [VThen, VBlock]) | refine VOps.vP (VPure.assign rfl rfl) ?_)) | refine VCode.seq ?_ | refine VCode.region rfl ?_))
    refine VCode.retD rfl rfl (.tmp rfl .nil) ?_
    rw [decide_eq_false (p := GoodG g) (fun h => by rw [(at_first hq).2 (h.names.1 k y hq).2] at b2; simp at b2)]; rfl
   have b2 : firstAt (fun x => decide (x = y)) g.names = (k : Int) := by simpa using b2
   (repeat (first | ((with_reducible refine VOps.same ?_); (first | (refine VOps.nil ?_; try dsimp only [VThen, VBlock]) | refine VOps.vP (VPure.move rfl rfl) ?_ | refine VOps.vP (VPure.assign rfl rfl) ?_ | refine VOps.vP (VPure.addK rfl rfl rfl (by omega)) ?_)) | refine VCode.region rfl ?_ | refine VCode.skip ?_))
   (refine Less.mk (l := [0]) hcx ?ss ?hh rfl (by decide) rfl ⟨_, ?_, k + 1, by omega, rfl, hb.step hq b1 ((at_first hq).1 b2), rfl⟩; (case ss => repeat (first | exact SubS.nil | refine SubS.cons rfl rfl ?_ | refine SubS.cons (ciI (by omega)) rfl ?_ | refine SubS.cons (ciB (by assumption)) rfl ?_)); (case hh => repeat (first | exact SubH.nil | refine SubH.cons rfl rfl rfl ?_)))
   omega
 | none =>
  have hge : g.names.length ≤ k := List.getElem?_eq_none_iff.1 hq
  have ok_names := hb.full hge
  clear hb hq hk
  (repeat (first | ((with_reducible refine VOps.same ?_); (first | (refine VOps.nil ?_; try dsimp only [VThen, VBlock]) | refine VOps.vP (VPure.move rfl rfl) ?_ | refine VOps.vP (VPure.lss rfl rfl rfl) ?_)) | refine VCode.seq ?_ | refine VCode.region rfl ?_))
  refine VCode.cond_f rfl (decide_eq_false (by omega)) ?_
  (repeat (first | ((with_reducible refine VOps.same ?_); (first | (refine VOps.nil ?_; try dsimp only [VThen, VBlock]) | refine VOps.vP (VPure.assign rfl rfl) ?_)) | refine VCode.seq ?_ | refine VCode.region rfl ?_ | refine VCode.block ?_ | refine VCode.exit ?_))
  refine VCode.loop (fun m st => ∃ k : Nat, k ≤ g.terms.length ∧ m = g.terms.length - k ∧ okTo isTerm g.terms k ∧ st = ⟨[(6, .val (.int .i64 (k : Int))), (4, .val (.int .i64 (g.names.length : Int))), (3, .val (.int .i64 (g.terms.length : Int))), (1, .ptr 0 0)], [(0, gO g)], 1⟩) g.terms.length ?_ ?_
  ·(refine Less.mk (l := [0]) hcx ?ss ?hh rfl (by decide) rfl ⟨0, by omega, by omega, okTo_zero _ _, rfl⟩; (case ss => repeat (first | exact SubS.nil | refine SubS.cons rfl rfl ?_ | refine SubS.cons (ciI (by omega)) rfl ?_ | refine SubS.cons (ciB (by assumption)) rfl ?_)); (case hh => repeat (first | exact SubH.nil | refine SubH.cons rfl rfl rfl ?_)))
  rintro m st ⟨k, hk, rfl, hb, rfl⟩
  cases hq : g.terms[k]? with
  | some y =>
   have hlt : k < g.terms.length := (List.getElem?_eq_some_iff.1 hq).1
   have hy := hg.tsize y (List.mem_of_getElem? hq)
   (repeat (first | ((with_reducible refine VOps.same ?_); (first | (refine VOps.nil ?_; try dsimp only [VThen, VBlock]) | refine VOps.vP (VPure.move rfl rfl) ?_ | refine VOps.vP (VPure.lss rfl rfl rfl) ?_)) | refine VCode.seq ?_ | refine VCode.region rfl ?_))
   refine VCode.cond_t rfl (decide_eq_true (by omega)) ?_
   cases b1 : isTerm y with
   | false =>
    (repeat (first | ((with_reducible refine VOps.same ?_); (first | refine VOps.vP (VPure.move rfl rfl) ?_ | refine VOps.vP (VPure.idx_map rfl rfl rfl (by assumption)) ?_ | refine VOps.vP (VPure.field_ptr rfl rfl rfl) ?_ | refine VOps.vV (VLoad.el1 rfl rfl rfl (by rfl)) ?_ | refine VOps.vV (VLoad.box1 rfl rfl rfl rfl (by rfl) (by decide)) ?_)) | refine VCode.seq ?_ | refine VCode.draw [] rfl ?_ | refine VCode.block ?_ | refine VCode.skip ?_))
    refine VOps.pure rfl Try.func45 rfl (by kernel_rfl) rfl rfl rfl rfl rfl rfl rfl ((by have := rterm_v y hy; rw [b1] at this; exact this)) ?_
    (repeat (first | ((with_reducible refine VOps.same ?_); (first | (refine VOps.nil ?_; try dsimp only [VThen, VBlock]) | refine VOps.vP (VPure.move rfl rfl) ?_ | refine VOps.vP (VPure.not rfl rfl) ?_ | refine VOps.vP (VPure.pick_t rfl rfl rfl) ?_ | refine VOps.passv rfl (by kernel_rfl) rfl ?_))))
    refine VCode.cond_t rfl rfl ?_
    (repeat (first | ((with_reducible refine VOps.same ?_); (first | (refine VOps.nil ?_; try dsimp only [VThen, VBlock]) | refine VOps.vP (VPure.assign rfl rfl) ?_)) | refine VCode.seq ?_ | refine VCode.region rfl ?_))
    refine VCode.retD rfl rfl (.tmp rfl .nil) ?_
    rw [decide_eq_false (p := GoodG g) (fun h => by rw [(h.terms.1 k y hq).1] at b1; cases b1)]; rfl
   | true =>
    (repeat (first | refine VCode.seq ?_ | refine VCode.block ?_ | refine VCode.skip ?_))
    refine VCode.thenTo ⟨[(88, .val (.bool (!decide (firstAt (fun x => decide (x = y)) g.terms = (k : Int))))), (6, .val (.int .i64 (k : Int))), (4, .val (.int .i64 (g.names.length : Int))), (3, .val (.int .i64 (g.terms.length : Int))), (1, .ptr 0 0)], [(0, gO g)], 1⟩ ?_ ?_
    ·refine VCode.drawAny [] (by kernel_rfl) rfl ?_
     refine VAny.pureI (i := 0) rfl rfl (by kernel_rfl) rfl (VPure.field_ptr rfl rfl rfl) ?_
     refine VAny.loadI (i := 1) rfl rfl (by kernel_rfl) rfl (VLoad.box1 rfl rfl rfl rfl (by rfl) (by decide)) ?_
     refine VAny.pureI (i := 2) rfl rfl (by kernel_rfl) rfl (VPure.move rfl rfl) ?_
     refine VAny.pureI (i := 3) rfl rfl (by kernel_rfl) rfl (VPure.idx_map rfl rfl rfl (by assumption)) ?_
     refine VAny.loadI (i := 4) rfl rfl (by kernel_rfl) rfl (VLoad.el1 rfl rfl rfl (by rfl)) ?_
     refine VAny.movesI (is := [5]) (by kernel_rfl) (by simp) rfl (all1 ?_)
     ·refine VMv.pure rfl rfl Try.func45 rfl rfl rfl rfl rfl rfl rfl rfl ((by have := rterm_v y hy; rw [b1] at this; exact this)) ?_
      refine VAny.pureI (i := 6) rfl rfl (by kernel_rfl) rfl (VPure.not rfl rfl) ?_
      refine VAny.pureI (i := 7) rfl rfl (by kernel_rfl) rfl (VPure.move rfl rfl) ?_
      refine VAny.pureI (i := 8) rfl rfl (by kernel_rfl) rfl (VPure.field_ptr rfl rfl rfl) ?_
      refine VAny.pureI (i := 10) rfl rfl (by kernel_rfl) rfl (VPure.field_ptr rfl rfl rfl) ?_
      refine VAny.pureI (i := 12) rfl rfl (by kernel_rfl) rfl (VPure.move rfl rfl) ?_
      refine VAny.pureI (i := 16) rfl rfl (by kernel_rfl) rfl (VPure.move rfl rfl) ?_
      refine VAny.movesI (is := [9, 11]) (by kernel_rfl) (by simp) rfl (allC ?_ (all1 ?_))
      ·refine VMv.load rfl rfl rfl (VLoad.box1 rfl rfl rfl rfl (by rfl) (by decide)) ?_
       refine VAny.movesI (is := [11]) (by kernel_rfl) (by simp) rfl (all1 ?_)
       ·refine VMv.load rfl rfl rfl (VLoad.box1 rfl rfl rfl rfl (by rfl) (by decide)) ?_
        refine VAny.pureI (i := 13) rfl rfl (by kernel_rfl) rfl (VPure.idx_map rfl rfl rfl (by assumption)) ?_
        refine VAny.movesI (is := [14]) (by kernel_rfl) (by simp) rfl (all1 ?_)
        ·refine VMv.load rfl rfl rfl (VLoad.el1 rfl rfl rfl (by rfl)) ?_
         refine VAny.movesI (is := [15]) (by kernel_rfl) (by simp) rfl (all1 ?_)
         ·refine VMv.pure rfl rfl Try.func44 rfl rfl rfl rfl rfl rfl rfl rfl (at_v g.terms y (by omega)) ?_
          refine VAny.pureI (i := 17) rfl rfl (by kernel_rfl) rfl (VPure.nei rfl rfl rfl) ?_
          refine VAny.pureI (i := 18) rfl rfl (by kernel_rfl) rfl (VPure.pick_f rfl rfl rfl) ?_
          refine VAny.done ?_
          (refine Less.mk (l := [0]) hcx ?ss ?hh rfl (by decide) rfl rfl; (case ss => repeat (first | exact SubS.nil | refine SubS.cons rfl rfl ?_ | refine SubS.cons (ciI (by omega)) rfl ?_ | refine SubS.cons (ciB (by assumption)) rfl ?_)); (case hh => repeat (first | exact SubH.nil | refine SubH.cons rfl rfl rfl ?_)))
      ·refine VMv.load rfl rfl rfl (VLoad.box1 rfl rfl rfl rfl (by rfl) (by decide)) ?_
       refine VAny.pureI (i := 13) rfl rfl (by kernel_rfl) rfl (VPure.idx_map rfl rfl rfl (by assumption)) ?_
       refine VAny.movesI (is := [9, 14]) (by kernel_rfl) (by simp) rfl (allC ?_ (all1 ?_))
       ·refine VMv.load rfl rfl rfl (VLoad.box1 rfl rfl rfl rfl (by rfl) (by decide)) ?_
        refine VAny.movesI (is := [14]) (by kernel_rfl) (by simp) rfl (all1 ?_)
        ·refine VMv.load rfl rfl rfl (VLoad.el1 rfl rfl rfl (by rfl)) ?_
         refine VAny.movesI (is := [15]) (by kernel_rfl) (by simp) rfl (all1 ?_)
         ·refine VMv.pure rfl rfl Try.func44 rfl rfl rfl rfl rfl rfl rfl rfl (at_v g.terms y (by omega)) ?_
          refine VAny.pureI (i := 17) rfl rfl (by kernel_rfl) rfl (VPure.nei rfl rfl rfl) ?_
          refine VAny.pureI (i := 18) rfl rfl (by kernel_rfl) rfl (VPure.pick_f rfl rfl rfl) ?_
          refine VAny.done ?_
          (refine Less.mk (l := [0]) hcx ?ss ?hh rfl (by decide) rfl rfl; (case ss => repeat (first | exact SubS.nil | refine SubS.cons rfl rfl ?_ | refine SubS.cons (ciI (by omega)) rfl ?_ | refine SubS.cons (ciB (by assumption)) rfl ?_)); (case hh => repeat (first | exact SubH.nil | refine SubH.cons rfl rfl rfl ?_)))
       ·refine VMv.load rfl rfl rfl (VLoad.el1 rfl rfl rfl (by rfl)) ?_
        refine VAny.movesI (is := [9]) (by kernel_rfl) (by simp) rfl (all1 ?_)
        ·refine VMv.load rfl rfl rfl (VLoad.box1 rfl rfl rfl rfl (by rfl) (by decide)) ?_
         refine VAny.movesI (is := [15]) (by kernel_rfl) (by simp) rfl (all1 ?_)
         ·refine VMv.pure rfl rfl Try.func44 rfl rfl rfl rfl rfl rfl rfl rfl (at_v g.terms y (by omega)) ?_
          refine VAny.pureI (i := 17) rfl rfl (by kernel_rfl) rfl (VPure.nei rfl rfl rfl) ?_
          refine VAny.pureI (i := 18) rfl rfl (by kernel_rfl) rfl (VPure.pick_f rfl rfl rfl) ?_
          refine VAny.done ?_
          (refine Less.mk (l := [0]) hcx ?ss ?hh rfl (by decide) rfl rfl; (case ss => repeat (first | exact SubS.nil | refine SubS.cons rfl rfl ?_ | refine SubS.cons (ciI (by omega)) rfl ?_ | refine SubS.cons (ciB (by assumption)) rfl ?_)); (case hh => repeat (first | exact SubH.nil | refine SubH.cons rfl rfl rfl ?_)))
    refine VCode.cond rfl (fun b2 => ?_) (fun b2 => ?_)
    ·(repeat (first | ((with_reducible refine VOps.same ?_); (first | (refine VOps.nil ?_; try dsimp only [VThen, VBlock]) | refine VOps.vP (VPure.assign rfl rfl) ?_)) | refine VCode.seq ?_ | refine VCode.region rfl ?_))
     refine VCode.retD rfl rfl (.tmp rfl .nil) ?_
     rw [decide_eq_false (p := GoodG g) (fun h => by rw [(at_first hq).2 (h.terms.1 k y hq).2] at b2; simp at b2)]; rfl
    have b2 : firstAt (fun x => decide (x = y)) g.terms = (k : Int) := by simpa using b2
    (repeat (first | ((with_reducible refine VOps.same ?_); (first | (refine VOps.nil ?_; try dsimp only [VThen, VBlock]) | refine VOps.vP (VPure.move rfl rfl) ?_ | refine VOps.vP (VPure.assign rfl rfl) ?_ | refine VOps.vP (VPure.addK rfl rfl rfl (by omega)) ?_)) | refine VCode.region rfl ?_ | refine VCode.skip ?_))
    (refine Less.mk (l := [0]) hcx ?ss ?hh rfl (by decide) rfl ⟨_, ?_, k + 1, by omega, rfl, hb.step hq b1 ((at_first hq).1 b2), rfl⟩; (case ss => repeat (first | exact SubS.nil | refine SubS.cons rfl rfl ?_ | refine SubS.cons (ciI (by omega)) rfl ?_ | refine SubS.cons (ciB (by assumption)) rfl ?_)); (case hh => repeat (first | exact SubH.nil | refine SubH.cons rfl rfl rfl ?_)))
    omega
  | none =>
   have hge : g.terms.length ≤ k := List.getElem?_eq_none_iff.1 hq
   have ok_terms := hb.full hge
   clear hb hq hk
   (repeat (first | ((with_reducible refine VOps.same ?_); (first | (refine VOps.nil ?_; try dsimp only [VThen, VBlock]) | refine VOps.vP (VPure.move rfl rfl) ?_ | refine VOps.vP (VPure.lss rfl rfl rfl) ?_)) | refine VCode.seq ?_ | refine VCode.region rfl ?_))
   refine VCode.cond_f rfl (decide_eq_false (by omega)) ?_
   (repeat (first | ((with_reducible refine VOps.same ?_); (first | (refine VOps.nil ?_; try dsimp only [VThen, VBlock]) | refine VOps.vP (VPure.assign rfl rfl) ?_)) | refine VCode.seq ?_ | refine VCode.region rfl ?_ | refine VCode.block ?_ | refine VCode.exit ?_))
   refine VCode.loop (fun m st => ∃ (k : Nat) (a b : Int), k ≤ g.rules.length ∧ m = g.rules.length - k ∧ (∀ i r, i < k → g.rules[i]? = some r → okRule g i r) ∧ rise (g.terms.length : Int) ((g.rules.take k).map Ru.left) = some ((g.terms.length : Int) + a) ∧ rise 0 (tsyms g (g.rules.take k)) = some b ∧ st = ⟨[(9, .val (.int .i64 (k : Int))), (7, .val (.int .i64 a)), (8, .val (.int .i64 b)), (4, .val (.int .i64 (g.names.length : Int))), (3, .val (.int .i64 (g.terms.length : Int))), (1, .ptr 0 0)], [(0, gO g)], 1⟩) g.rules.length ?_ ?_
   ·(refine Less.mk (l := [0]) hcx ?ss ?hh rfl (by decide) rfl ⟨0, 0, 0, by omega, by omega, fun i r h => by omega, by simp [rise], rfl, rfl⟩; (case ss => repeat (first | exact SubS.nil | refine SubS.cons rfl rfl ?_ | refine SubS.cons (ciI (by omega)) rfl ?_ | refine SubS.cons (ciB (by assumption)) rfl ?_)); (case hh => repeat (first | exact SubH.nil | refine SubH.cons rfl rfl rfl ?_)))
   rintro m st ⟨k, a, b, hk, rfl, hb, hra, hrb, rfl⟩
   have hla := rise_le hra
   have hlb := rise_le hrb
   have hlen : ((g.rules.take k).map Ru.left).length ≤ 60 := by rw [List.length_map, List.length_take]; omega
   have hsl : (tsyms g (g.rules.take k)).length ≤ 8 * k := tsyms_lenTo hb
   cases hq : g.rules[k]? with
   | some r =>
    have hlt : k < g.rules.length := (List.getElem?_eq_some_iff.1 hq).1
    have hrr := hg.rights r (List.mem_of_getElem? hq)
    have hls := lefts_succ hq
    have hts := tsyms_succ hq
    have hall : g.rules.map Ru.left = (g.rules.take (k + 1)).map Ru.left ++ (g.rules.drop (k + 1)).map Ru.left := by rw [← List.map_append, List.take_append_drop]
    have hst := rise_step (n := r.left) hra
    (repeat (first | ((with_reducible refine VOps.same ?_); (first | (refine VOps.nil ?_; try dsimp only [VThen, VBlock]) | refine VOps.vP (VPure.move rfl rfl) ?_ | refine VOps.vP (VPure.len_map TI.und' rfl rfl) ?_ | refine VOps.vP (VPure.field_ptr rfl rfl rfl) ?_ | refine VOps.vV (VLoad.box1 rfl rfl rfl rfl (by rfl) (by decide)) ?_ | refine VOps.vP (VPure.lss rfl rfl rfl) ?_)) | refine VCode.seq ?_ | refine VCode.region rfl ?_))
    refine VCode.cond_t rfl (decide_eq_true (by omega)) ?_
    (repeat (first | ((with_reducible refine VOps.same ?_); (first | (refine VOps.nil ?_; try dsimp only [VThen, VBlock]) | refine VOps.vP (VPure.move rfl rfl) ?_ | refine VOps.vP (VPure.idx_map rfl rfl rfl (by assumption)) ?_ | refine VOps.vP (VPure.field_ptr rfl rfl rfl) ?_ | refine VOps.vV (VLoad.box1 rfl rfl rfl rfl (by rfl) (by decide)) ?_ | refine VOps.vV (VLoad.elA rfl rfl (by rfl) (leR (by rfl))) ?_ | refine VOps.vP (VPure.lss rfl rfl rfl) ?_ | refine VOps.alloc rfl rfl (by kernel_rfl) rfl (by kernel_rfl) rfl ?_ | refine VOps.store rfl rfl (by kernel_rfl) rfl rfl rfl rfl rfl rfl (leR (by rfl)) rfl ?_)) | refine VCode.seq ?_ | refine VCode.region rfl ?_ | refine VCode.draw [] rfl ?_ | refine VCode.block ?_ | refine VCode.skip ?_))
    refine VOps.bool (d := 105) rfl (fun c1 => ?_) (fun c1 => ?_)
    ·(repeat (first | ((with_reducible refine VOps.same ?_); (first | (refine VOps.nil ?_; try dsimp only [VThen, VBlock]) | refine VOps.vP (VPure.move rfl rfl) ?_ | refine VOps.vP (VPure.pick_t rfl rfl rfl) ?_ | refine VOps.passv rfl (by kernel_rfl) rfl ?_))))
     refine VCode.cond_t rfl rfl ?_
     (repeat (first | ((with_reducible refine VOps.same ?_); (first | (refine VOps.nil ?_; try dsimp only [VThen, VBlock]) | refine VOps.vP (VPure.assign rfl rfl) ?_)) | refine VCode.seq ?_ | refine VCode.region rfl ?_))
     refine VCode.retD rfl rfl (.tmp rfl .nil) ?_
     rw [decide_eq_false (p := GoodG g) (fun h => by have := (h.rules.2.2 k r hq).1; have := of_decide_eq_true c1; omega)]; rfl
    have c1 := of_decide_eq_false c1
    (repeat (first | ((with_reducible refine VOps.same ?_); (first | refine VOps.vP (VPure.move rfl rfl) ?_ | refine VOps.vP (VPure.field_ptr rfl rfl rfl) ?_ | refine VOps.vV (VLoad.box1 rfl rfl rfl rfl (by rfl) (by decide)) ?_ | refine VOps.vP (VPure.addK rfl rfl rfl (by omega)) ?_ | refine VOps.vP (VPure.gtr rfl rfl rfl) ?_ | refine VOps.vP (VPure.pick_f rfl rfl rfl) ?_))))
    refine VOps.bool (d := 113) rfl (fun c2 => ?_) (fun c2 => ?_)
    ·(repeat (first | ((with_reducible refine VOps.same ?_); (first | (refine VOps.nil ?_; try dsimp only [VThen, VBlock]) | refine VOps.vP (VPure.move rfl rfl) ?_ | refine VOps.vP (VPure.pick_t rfl rfl rfl) ?_ | refine VOps.passv rfl (by kernel_rfl) rfl ?_))))
     refine VCode.cond_t rfl rfl ?_
     (repeat (first | ((with_reducible refine VOps.same ?_); (first | (refine VOps.nil ?_; try dsimp only [VThen, VBlock]) | refine VOps.vP (VPure.assign rfl rfl) ?_)) | refine VCode.seq ?_ | refine VCode.region rfl ?_))
     refine VCode.retD rfl rfl (.tmp rfl .nil) ?_
     rw [decide_eq_false (p := GoodG g) (fun h => by have h1 := h.lefts; rw [hall, hls, rise_no (by rw [hst, if_pos (of_decide_eq_true c2)])] at h1; cases h1)]; rfl
    have c2 := of_decide_eq_false c2
    rw [if_neg c2, ← hls] at hst
    (repeat (first | ((with_reducible refine VOps.same ?_); (first | refine VOps.vP (VPure.move rfl rfl) ?_ | refine VOps.vP (VPure.field_ptr rfl rfl rfl) ?_ | refine VOps.vV (VLoad.box1 rfl rfl rfl rfl (by rfl) (by decide)) ?_ | refine VOps.vP (VPure.addK rfl rfl rfl (by omega)) ?_ | refine VOps.vP (VPure.geq rfl rfl rfl) ?_ | refine VOps.vP (VPure.pick_f rfl rfl rfl) ?_))))
    refine VOps.bool (d := 121) rfl (fun c3 => ?_) (fun c3 => ?_)
    ·(repeat (first | ((with_reducible refine VOps.same ?_); (first | (refine VOps.nil ?_; try dsimp only [VThen, VBlock]) | refine VOps.vP (VPure.move rfl rfl) ?_ | refine VOps.vP (VPure.pick_t rfl rfl rfl) ?_ | refine VOps.passv rfl (by kernel_rfl) rfl ?_))))
     refine VCode.cond_t rfl rfl ?_
     (repeat (first | ((with_reducible refine VOps.same ?_); (first | (refine VOps.nil ?_; try dsimp only [VThen, VBlock]) | refine VOps.vP (VPure.assign rfl rfl) ?_)) | refine VCode.seq ?_ | refine VCode.region rfl ?_))
     refine VCode.retD rfl rfl (.tmp rfl .nil) ?_
     rw [decide_eq_false (p := GoodG g) (fun h => by have := (h.rules.2.2 k r hq).2.1; have := of_decide_eq_true c3; unfold symZ at *; omega)]; rfl
    have c3 := of_decide_eq_false c3
    (repeat (first | ((with_reducible refine VOps.same ?_); (first | refine VOps.vP (VPure.move rfl rfl) ?_ | refine VOps.vP (VPure.len_map TI.und' rfl rfl) ?_ | refine VOps.vP (VPure.field_ptr rfl rfl rfl) ?_ | refine VOps.vV (VLoad.box1 rfl rfl rfl rfl (by rfl) (by decide)) ?_ | refine VOps.vP (VPure.gtr rfl rfl rfl) ?_ | refine VOps.vP (VPure.pick_f rfl rfl rfl) ?_))))
    refine VOps.bool (d := 127) rfl (fun c4 => ?_) (fun c4 => ?_)
    ·(repeat (first | ((with_reducible refine VOps.same ?_); (first | (refine VOps.nil ?_; try dsimp only [VThen, VBlock]) | refine VOps.vP (VPure.pick_t rfl rfl rfl) ?_ | refine VOps.passv rfl (by kernel_rfl) rfl ?_))))
     refine VCode.cond_t rfl rfl ?_
     (repeat (first | ((with_reducible refine VOps.same ?_); (first | (refine VOps.nil ?_; try dsimp only [VThen, VBlock]) | refine VOps.vP (VPure.assign rfl rfl) ?_)) | refine VCode.seq ?_ | refine VCode.region rfl ?_))
     refine VCode.retD rfl rfl (.tmp rfl .nil) ?_
     rw [decide_eq_false (p := GoodG g) (fun h => by have := (h.rules.2.2 k r hq).2.2.1; have := of_decide_eq_true c4; omega)]; rfl
    have c4 := of_decide_eq_false c4
    (repeat (first | ((with_reducible refine VOps.same ?_); (first | refine VOps.vP (VPure.move rfl rfl) ?_ | (refine VOps.vP (VPure.cut_take rfl rfl rfl ?b1) ?_; (case b1 => (first | omega | (simp only [List.length_map, List.length_append, List.length_cons, List.length_nil] at *; omega) | (simp; omega)))) | refine VOps.vP (VPure.field_ptr rfl rfl rfl) ?_ | refine VOps.vV (VLoad.box1 rfl rfl rfl rfl (by rfl) (by decide)) ?_ | refine VOps.vV (VLoad.boxA rfl rfl rfl (by rfl) (leR (by rfl)) (by decide)) ?_))))
    refine VOps.pure rfl Try.func46 rfl (by kernel_rfl) rfl rfl rfl rfl rfl rfl rfl (rhas_v (g.rules.take k) r (by rw [List.length_take]; omega) (fun x hx => by have := hg.rights x (List.mem_of_mem_take hx); omega) (by omega)) ?_
    (repeat (first | ((with_reducible refine VOps.same ?_); (first | (refine VOps.nil ?_; try dsimp only [VThen, VBlock]) | refine VOps.vP (VPure.pick_f rfl rfl rfl) ?_))))
    refine VCode.cond rfl (fun c5 => ?_) (fun c5 => ?_)
    ·(repeat (first | ((with_reducible refine VOps.same ?_); (first | (refine VOps.nil ?_; try dsimp only [VThen, VBlock]) | refine VOps.vP (VPure.assign rfl rfl) ?_)) | refine VCode.seq ?_ | refine VCode.region rfl ?_))
     refine VCode.retD rfl rfl (.tmp rfl .nil) ?_
     rw [decide_eq_false (p := GoodG g) (fun h => (h.rules.2.2 k r hq).2.2.2.1 ((inR_iff _ _).1 c5))]; rfl
    have c5 : r ∉ g.rules.take k := fun h => by rw [(inR_iff _ _).2 h] at c5; cases c5
    (repeat (first | ((with_reducible refine VOps.same ?_); (first | (refine VOps.nil ?_; try dsimp only [VThen, VBlock]) | refine VOps.vP (VPure.move rfl rfl) ?_ | refine VOps.vP (VPure.field_ptr rfl rfl rfl) ?_ | refine VOps.vV (VLoad.box1 rfl rfl rfl rfl (by rfl) (by decide)) ?_ | refine VOps.vP (VPure.addK rfl rfl rfl (by omega)) ?_ | refine VOps.vP (VPure.eqi rfl rfl rfl) ?_)) | refine VCode.seq ?_ | refine VCode.region rfl ?_ | refine VCode.skip ?_))
    refine VCode.thenI (I := fun st => ∃ a', rise (g.terms.length : Int) ((g.rules.take (k + 1)).map Ru.left) = some ((g.terms.length : Int) + a') ∧ st = ⟨[(9, .val (.int .i64 (k : Int))), (7, .val (.int .i64 a')), (8, .val (.int .i64 b)), (4, .val (.int .i64 (g.names.length : Int))), (3, .val (.int .i64 (g.terms.length : Int))), (1, .ptr 0 0), (10, .ptr 1 0)], [(0, gO g), (1, rO r)], 2⟩) ?_ ?_
    ·skip
     refine VCode.cond rfl (fun c6 => ?_) (fun c6 => ?_)
     ·(repeat (first | ((with_reducible refine VOps.same ?_); (first | (refine VOps.nil ?_; try dsimp only [VThen, VBlock]) | refine VOps.vP (VPure.move rfl rfl) ?_ | refine VOps.vP (VPure.assign rfl rfl) ?_ | refine VOps.vP (VPure.addK rfl rfl rfl (by omega)) ?_)) | refine VCode.region rfl ?_))
      rw [if_pos (of_decide_eq_true c6)] at hst
      (refine Less.mk (l := [0, 1]) hcx ?ss ?hh rfl (by decide) rfl ⟨a + 1, (by rw [hst]; exact congrArg some (by omega)), rfl⟩; (case ss => repeat (first | exact SubS.nil | refine SubS.cons rfl rfl ?_ | refine SubS.cons (ciI (by omega)) rfl ?_ | refine SubS.cons (ciB (by assumption)) rfl ?_)); (case hh => repeat (first | exact SubH.nil | refine SubH.cons rfl rfl rfl ?_)))
     ·(repeat (first | refine VCode.skip ?_))
      (refine Less.mk (l := [0, 1]) hcx ?ss ?hh rfl (by decide) rfl ⟨a, (by rw [hst, if_neg (of_decide_eq_false c6)]), rfl⟩; (case ss => repeat (first | exact SubS.nil | refine SubS.cons rfl rfl ?_ | refine SubS.cons (ciI (by omega)) rfl ?_ | refine SubS.cons (ciB (by assumption)) rfl ?_)); (case hh => repeat (first | exact SubH.nil | refine SubH.cons rfl rfl rfl ?_)))
    rintro st ⟨a', hra', rfl⟩
    clear hst hra hla hlen
    have hla := rise_le hra'
    have hlen : ((g.rules.take (k + 1)).map Ru.left).length ≤ 61 := by rw [List.length_map, List.length_take]; omega
    (repeat (first | ((with_reducible refine VOps.same ?_); (first | (refine VOps.nil ?_; try dsimp only [VThen, VBlock]) | refine VOps.vP (VPure.assign rfl rfl) ?_)) | refine VCode.seq ?_ | refine VCode.region rfl ?_ | refine VCode.block ?_))
    refine VCode.loop (fun m st => ∃ (j : Nat) (b' : Int), j ≤ r.right.length ∧ m = r.right.length - j ∧ (∀ s ∈ r.right.take j, 0 ≤ s ∧ s < symZ g) ∧ rise 0 (tsyms g (g.rules.take k) ++ (r.right.take j).filter (isT g)) = some b' ∧ st = ⟨[(11, .val (.int .i64 (j : Int))), (9, .val (.int .i64 (k : Int))), (7, .val (.int .i64 a')), (8, .val (.int .i64 b')), (4, .val (.int .i64 (g.names.length : Int))), (3, .val (.int .i64 (g.terms.length : Int))), (1, .ptr 0 0), (10, .ptr 1 0)], [(0, gO g), (1, rO r)], 2⟩) r.right.length ?_ ?_
    ·(refine Less.mk (l := [0, 1]) hcx ?ss ?hh rfl (by decide) rfl ⟨0, b, by omega, by omega, by simp, (by simpa using hrb), rfl⟩; (case ss => repeat (first | exact SubS.nil | refine SubS.cons rfl rfl ?_ | refine SubS.cons (ciI (by omega)) rfl ?_ | refine SubS.cons (ciB (by assumption)) rfl ?_)); (case hh => repeat (first | exact SubH.nil | refine SubH.cons rfl rfl rfl ?_)))
    rintro m st ⟨j, b', hj, rfl, hin, hrb', rfl⟩
    have hlb' := rise_le hrb'
    have hfl : (tsyms g (g.rules.take k) ++ (r.right.take j).filter (isT g)).length ≤ 600 := by have := List.length_filter_le (isT g) (r.right.take j); rw [List.length_take] at this; rw [List.length_append]; omega
    cases hs : r.right[j]? with
    | some s =>
     have hlt2 : j < r.right.length := (List.getElem?_eq_some_iff.1 hs).1
     have hsm := List.mem_of_getElem? hs
     have hfs : (r.right.take (j + 1)).filter (isT g) = (r.right.take j).filter (isT g) ++ if isT g s then [s] else [] := by
      rw [List.take_add_one, hs, List.filter_append]
      cases hb : isT g s <;> simp [hb]
     have hall2 : tsyms g g.rules = tsyms g (g.rules.take k) ++ (r.right.take (j + 1)).filter (isT g) ++ ((r.right.drop (j + 1)).filter (isT g) ++ tsyms g (g.rules.drop (k + 1))) := by
      rw [← List.append_assoc, List.append_assoc (tsyms g _) _ (List.filter _ (r.right.drop (j + 1))), ← List.filter_append, List.take_append_drop, ← hts, ← tsyms_append, List.take_append_drop]
     (repeat (first | ((with_reducible refine VOps.same ?_); (first | (refine VOps.nil ?_; try dsimp only [VThen, VBlock]) | refine VOps.vP (VPure.move rfl rfl) ?_ | refine VOps.vP (VPure.len_map TI.und' rfl rfl) ?_ | refine VOps.vP (VPure.field_ptr rfl rfl rfl) ?_ | refine VOps.vV (VLoad.box1 rfl rfl rfl rfl (by rfl) (by decide)) ?_ | refine VOps.vP (VPure.lss rfl rfl rfl) ?_)) | refine VCode.seq ?_ | refine VCode.region rfl ?_))
     refine VCode.cond_t rfl (decide_eq_true (by omega)) ?_
     (repeat (first | ((with_reducible refine VOps.same ?_); (first | (refine VOps.nil ?_; try dsimp only [VThen, VBlock]) | refine VOps.vP (VPure.move rfl rfl) ?_ | refine VOps.vP (VPure.assign rfl rfl) ?_ | refine VOps.vP (VPure.idx_map rfl rfl rfl (by assumption)) ?_ | refine VOps.vP (VPure.field_ptr rfl rfl rfl) ?_ | refine VOps.vV (VLoad.el1 rfl rfl rfl (by rfl)) ?_ | refine VOps.vV (VLoad.box1 rfl rfl rfl rfl (by rfl) (by decide)) ?_ | refine VOps.vP (VPure.lss rfl rfl rfl) ?_)) | refine VCode.seq ?_ | refine VCode.region rfl ?_ | refine VCode.block ?_ | refine VCode.skip ?_))
     refine VOps.bool (d := 157) rfl (fun d1 => ?_) (fun d1 => ?_)
     ·(repeat (first | ((with_reducible refine VOps.same ?_); (first | (refine VOps.nil ?_; try dsimp only [VThen, VBlock]) | refine VOps.vP (VPure.move rfl rfl) ?_ | refine VOps.vP (VPure.pick_t rfl rfl rfl) ?_ | refine VOps.passv rfl (by kernel_rfl) rfl ?_))))
      refine VCode.cond_t rfl rfl ?_
      (repeat (first | ((with_reducible refine VOps.same ?_); (first | (refine VOps.nil ?_; try dsimp only [VThen, VBlock]) | refine VOps.vP (VPure.assign rfl rfl) ?_)) | refine VCode.seq ?_ | refine VCode.region rfl ?_))
      refine VCode.retD rfl rfl (.tmp rfl .nil) ?_
      rw [decide_eq_false (p := GoodG g) (fun h => by have := ((h.rules.2.2 k r hq).2.2.2.2 s hsm).1; have := of_decide_eq_true d1; omega)]; rfl
     have d1 := of_decide_eq_false d1
     (repeat (first | ((with_reducible refine VOps.same ?_); (first | refine VOps.vP (VPure.move rfl rfl) ?_ | refine VOps.vP (VPure.addK rfl rfl rfl (by omega)) ?_ | refine VOps.vP (VPure.geq rfl rfl rfl) ?_ | refine VOps.vP (VPure.pick_f rfl rfl rfl) ?_))))
     refine VOps.bool (d := 164) rfl (fun d2 => ?_) (fun d2 => ?_)
     ·(repeat (first | ((with_reducible refine VOps.same ?_); (first | (refine VOps.nil ?_; try dsimp only [VThen, VBlock]) | refine VOps.vP (VPure.pick_t rfl rfl rfl) ?_ | refine VOps.passv rfl (by kernel_rfl) rfl ?_))))
      refine VCode.cond_t rfl rfl ?_
      (repeat (first | ((with_reducible refine VOps.same ?_); (first | (refine VOps.nil ?_; try dsimp only [VThen, VBlock]) | refine VOps.vP (VPure.assign rfl rfl) ?_)) | refine VCode.seq ?_ | refine VCode.region rfl ?_))
      refine VCode.retD rfl rfl (.tmp rfl .nil) ?_
      rw [decide_eq_false (p := GoodG g) (fun h => by have := ((h.rules.2.2 k r hq).2.2.2.2 s hsm).2; have := of_decide_eq_true d2; unfold symZ at *; omega)]; rfl
     have d2 := of_decide_eq_false d2
     have hin' : ∀ s ∈ r.right.take (j + 1), 0 ≤ s ∧ s < symZ g := take_all hs hin ⟨by omega, by unfold symZ; omega⟩
     (repeat (first | ((with_reducible refine VOps.same ?_); (first | refine VOps.vP (VPure.move rfl rfl) ?_ | refine VOps.vP (VPure.lss rfl rfl rfl) ?_))))
     refine VOps.bool (d := 168) rfl (fun d3 => ?_) (fun d3 => ?_)
     ·have d3 := of_decide_eq_true d3
      have hT : isT g s = true := by unfold isT; rw [decide_eq_true (by omega), decide_eq_true d3]; rfl
      rw [if_pos hT] at hfs
      have hst2 := rise_step (n := s) hrb'
      rw [List.append_assoc, ← hfs] at hst2
      (repeat (first | ((with_reducible refine VOps.same ?_); (first | (refine VOps.nil ?_; try dsimp only [VThen, VBlock]) | refine VOps.vP (VPure.move rfl rfl) ?_ | refine VOps.vP (VPure.gtr rfl rfl rfl) ?_ | refine VOps.vP (VPure.pick_t rfl rfl rfl) ?_ | refine VOps.vP (VPure.pick_f rfl rfl rfl) ?_))))
      refine VCode.cond rfl (fun d4 => ?_) (fun d4 => ?_)
      ·(repeat (first | ((with_reducible refine VOps.same ?_); (first | (refine VOps.nil ?_; try dsimp only [VThen, VBlock]) | refine VOps.vP (VPure.assign rfl rfl) ?_)) | refine VCode.seq ?_ | refine VCode.region rfl ?_))
       refine VCode.retD rfl rfl (.tmp rfl .nil) ?_
       rw [decide_eq_false (p := GoodG g) (fun h => by have h1 := h.syms; rw [hall2, rise_no (by rw [hst2, if_pos (of_decide_eq_true d4)])] at h1; cases h1)]; rfl
      have d4 := of_decide_eq_false d4
      rw [if_neg d4] at hst2
      (repeat (first | ((with_reducible refine VOps.same ?_); (first | refine VOps.vP (VPure.move rfl rfl) ?_ | refine VOps.vP (VPure.eqi rfl rfl rfl) ?_)) | refine VCode.seq ?_ | refine VCode.region rfl ?_ | refine VCode.skip ?_))
      refine VOps.bool (d := 177) rfl (fun d5 => ?_) (fun d5 => ?_)
      ·have d5 := of_decide_eq_true d5
       rw [if_pos d5] at hst2
       (repeat (first | ((with_reducible refine VOps.same ?_); (first | (refine VOps.nil ?_; try dsimp only [VThen, VBlock]) | refine VOps.vP (VPure.move rfl rfl) ?_ | refine VOps.vP (VPure.lss rfl rfl rfl) ?_ | refine VOps.vP (VPure.pick_t rfl rfl rfl) ?_))))
       refine VCode.cond_t rfl (decide_eq_true d3) ?_
       (repeat (first | ((with_reducible refine VOps.same ?_); (first | (refine VOps.nil ?_; try dsimp only [VThen, VBlock]) | refine VOps.vP (VPure.move rfl rfl) ?_ | refine VOps.vP (VPure.assign rfl rfl) ?_ | refine VOps.vP (VPure.addK rfl rfl rfl (by omega)) ?_)) | refine VCode.region rfl ?_))
       (refine Less.mk (l := [0, 1]) hcx ?ss ?hh rfl (by decide) rfl ⟨_, ?_, j + 1, b' + 1, by omega, rfl, hin', hst2, rfl⟩; (case ss => repeat (first | exact SubS.nil | refine SubS.cons rfl rfl ?_ | refine SubS.cons (ciI (by omega)) rfl ?_ | refine SubS.cons (ciB (by assumption)) rfl ?_)); (case hh => repeat (first | exact SubH.nil | refine SubH.cons rfl rfl rfl ?_)))
       omega
      ·have d5 := of_decide_eq_false d5
       rw [if_neg d5] at hst2
       (repeat (first | ((with_reducible refine VOps.same ?_); (first | (refine VOps.nil ?_; try dsimp only [VThen, VBlock]) | refine VOps.vP (VPure.pick_f rfl rfl rfl) ?_ | refine VOps.passv rfl (by kernel_rfl) rfl ?_))))
       refine VCode.cond_f rfl rfl ?_
       (repeat (first | ((with_reducible refine VOps.same ?_); (first | (refine VOps.nil ?_; try dsimp only [VThen, VBlock]) | refine VOps.vP (VPure.move rfl rfl) ?_ | refine VOps.vP (VPure.assign rfl rfl) ?_ | refine VOps.vP (VPure.addK rfl rfl rfl (by omega)) ?_)) | refine VCode.region rfl ?_ | refine VCode.skip ?_))
       (refine Less.mk (l := [0, 1]) hcx ?ss ?hh rfl (by decide) rfl ⟨_, ?_, j + 1, b', by omega, rfl, hin', hst2, rfl⟩; (case ss => repeat (first | exact SubS.nil | refine SubS.cons rfl rfl ?_ | refine SubS.cons (ciI (by omega)) rfl ?_ | refine SubS.cons (ciB (by assumption)) rfl ?_)); (case hh => repeat (first | exact SubH.nil | refine SubH.cons rfl rfl rfl ?_)))
       omega
     ·have d3 := of_decide_eq_false d3
      have hT : isT g s = false := by unfold isT; rw [decide_eq_false d3]; simp
      rw [if_neg (by rw [hT]; simp), List.append_nil] at hfs
      rw [← hfs] at hrb'
      (repeat (first | ((with_reducible refine VOps.same ?_); (first | (refine VOps.nil ?_; try dsimp only [VThen, VBlock]) | refine VOps.vP (VPure.pick_f rfl rfl rfl) ?_ | refine VOps.passv rfl (by kernel_rfl) rfl ?_))))
      refine VCode.cond_f rfl rfl ?_
      (repeat (first | ((with_reducible refine VOps.same ?_); (first | refine VOps.vP (VPure.move rfl rfl) ?_ | refine VOps.vP (VPure.eqi rfl rfl rfl) ?_)) | refine VCode.seq ?_ | refine VCode.region rfl ?_ | refine VCode.skip ?_))
      refine VOps.bool (d := 177) rfl (fun d5 => ?_) (fun d5 => ?_)
      ·(repeat (first | ((with_reducible refine VOps.same ?_); (first | (refine VOps.nil ?_; try dsimp only [VThen, VBlock]) | refine VOps.vP (VPure.move rfl rfl) ?_ | refine VOps.vP (VPure.lss rfl rfl rfl) ?_ | refine VOps.vP (VPure.pick_t rfl rfl rfl) ?_))))
       refine VCode.cond_f rfl (decide_eq_false d3) ?_
       (repeat (first | ((with_reducible refine VOps.same ?_); (first | (refine VOps.nil ?_; try dsimp only [VThen, VBlock]) | refine VOps.vP (VPure.move rfl rfl) ?_ | refine VOps.vP (VPure.assign rfl rfl) ?_ | refine VOps.vP (VPure.addK rfl rfl rfl (by omega)) ?_)) | refine VCode.region rfl ?_ | refine VCode.skip ?_))
       (refine Less.mk (l := [0, 1]) hcx ?ss ?hh rfl (by decide) rfl ⟨_, ?_, j + 1, b', by omega, rfl, hin', hrb', rfl⟩; (case ss => repeat (first | exact SubS.nil | refine SubS.cons rfl rfl ?_ | refine SubS.cons (ciI (by omega)) rfl ?_ | refine SubS.cons (ciB (by assumption)) rfl ?_)); (case hh => repeat (first | exact SubH.nil | refine SubH.cons rfl rfl rfl ?_)))
       omega
      ·(repeat (first | ((with_reducible refine VOps.same ?_); (first | (refine VOps.nil ?_; try dsimp only [VThen, VBlock]) | refine VOps.vP (VPure.pick_f rfl rfl rfl) ?_ | refine VOps.passv rfl (by kernel_rfl) rfl ?_))))
       refine VCode.cond_f rfl rfl ?_
       (repeat (first | ((with_reducible refine VOps.same ?_); (first | (refine VOps.nil ?_; try dsimp only [VThen, VBlock]) | refine VOps.vP (VPure.move rfl rfl) ?_ | refine VOps.vP (VPure.assign rfl rfl) ?_ | refine VOps.vP (VPure.addK rfl rfl rfl (by omega)) ?_)) | refine VCode.region rfl ?_ | refine VCode.skip ?_))
       (refine Less.mk (l := [0, 1]) hcx ?ss ?hh rfl (by decide) rfl ⟨_, ?_, j + 1, b', by omega, rfl, hin', hrb', rfl⟩; (case ss => repeat (first | exact SubS.nil | refine SubS.cons rfl rfl ?_ | refine SubS.cons (ciI (by omega)) rfl ?_ | refine SubS.cons (ciB (by assumption)) rfl ?_)); (case hh => repeat (first | exact SubH.nil | refine SubH.cons rfl rfl rfl ?_)))
       omega
    | none =>
     have hge : r.right.length ≤ j := List.getElem?_eq_none_iff.1 hs
     rw [List.take_of_length_le hge] at hin hrb'
     rw [← hts] at hrb'
     have hok : okRule g k r := ⟨by omega, by unfold symZ; omega, by omega, c5, hin⟩
     (repeat (first | ((with_reducible refine VOps.same ?_); (first | (refine VOps.nil ?_; try dsimp only [VThen, VBlock]) | refine VOps.vP (VPure.move rfl rfl) ?_ | refine VOps.vP (VPure.len_map TI.und' rfl rfl) ?_ | refine VOps.vP (VPure.field_ptr rfl rfl rfl) ?_ | refine VOps.vV (VLoad.box1 rfl rfl rfl rfl (by rfl) (by decide)) ?_ | refine VOps.vP (VPure.lss rfl rfl rfl) ?_)) | refine VCode.seq ?_ | refine VCode.region rfl ?_))
     refine VCode.cond_f rfl (decide_eq_false (by omega)) ?_
     (repeat (first | ((with_reducible refine VOps.same ?_); (first | (refine VOps.nil ?_; try dsimp only [VThen, VBlock]) | refine VOps.vP (VPure.move rfl rfl) ?_ | refine VOps.vP (VPure.assign rfl rfl) ?_ | refine VOps.vP (VPure.addK rfl rfl rfl (by omega)) ?_)) | refine VCode.region rfl ?_ | refine VCode.exit ?_))
     (refine Less.mk (l := [0]) hcx ?ss ?hh rfl (by decide) rfl ⟨_, ?_, k + 1, a', b', by omega, rfl, (fun i x hi hx => by
      by_cases e : i = k
      ·subst e; rw [hq] at hx; obtain rfl := Option.some.inj hx; exact hok
      ·exact hb i x (by omega) hx), hra', hrb', rfl⟩; (case ss => repeat (first | exact SubS.nil | refine SubS.cons rfl rfl ?_ | refine SubS.cons (ciI (by omega)) rfl ?_ | refine SubS.cons (ciB (by assumption)) rfl ?_)); (case hh => repeat (first | exact SubH.nil | refine SubH.cons rfl rfl rfl ?_)))
     omega
   | none =>
    have hge : g.rules.length ≤ k := List.getElem?_eq_none_iff.1 hq
    rw [List.take_of_length_le hge] at hra hrb
    have hok : okRules g := fun i r hi => hb i r (by have := (List.getElem?_eq_some_iff.1 hi).1; omega) hi
    (repeat (first | ((with_reducible refine VOps.same ?_); (first | (refine VOps.nil ?_; try dsimp only [VThen, VBlock]) | refine VOps.vP (VPure.move rfl rfl) ?_ | refine VOps.vP (VPure.len_map TI.und' rfl rfl) ?_ | refine VOps.vP (VPure.field_ptr rfl rfl rfl) ?_ | refine VOps.vV (VLoad.box1 rfl rfl rfl rfl (by rfl) (by decide)) ?_ | refine VOps.vP (VPure.lss rfl rfl rfl) ?_)) | refine VCode.seq ?_ | refine VCode.region rfl ?_))
    refine VCode.cond_f rfl (decide_eq_false (by omega)) ?_
    (repeat (first | ((with_reducible refine VOps.same ?_); (first | refine VOps.vP (VPure.move rfl rfl) ?_ | refine VOps.vP (VPure.eqi rfl rfl rfl) ?_)) | refine VCode.seq ?_ | refine VCode.region rfl ?_ | refine VCode.exit ?_))
    refine VOps.bool (d := 187) rfl (fun e1 => ?_) (fun e1 => ?_)
    ·have e1 := of_decide_eq_true e1
     (repeat (first | ((with_reducible refine VOps.same ?_); (first | (refine VOps.nil ?_; try dsimp only [VThen, VBlock]) | refine VOps.vP (VPure.move rfl rfl) ?_ | refine VOps.vP (VPure.assign rfl rfl) ?_ | refine VOps.vP (VPure.eqi rfl rfl rfl) ?_ | refine VOps.vP (VPure.pick_t rfl rfl rfl) ?_))))
     refine VCode.retD rfl rfl (.tmp rfl .nil) ?_
     exact congrArg (fun b => V.val (.bool b)) (by
      rw [decide_eq_decide]
      exact ⟨fun h => ⟨⟨ok_names, by omega, by omega⟩, ⟨ok_terms, by omega, by omega⟩, ⟨by omega, by omega, hok⟩, by rw [hra, e1], by rw [hrb, h]⟩, fun h => by have := h.syms; rw [hrb] at this; exact Option.some.inj this⟩)
    ·have e1 := of_decide_eq_false e1
     (repeat (first | ((with_reducible refine VOps.same ?_); (first | (refine VOps.nil ?_; try dsimp only [VThen, VBlock]) | refine VOps.vP (VPure.assign rfl rfl) ?_ | refine VOps.vP (VPure.pick_f rfl rfl rfl) ?_ | refine VOps.passv rfl (by kernel_rfl) rfl ?_))))
     refine VCode.retD rfl rfl (.tmp rfl .nil) ?_
     rw [decide_eq_false (p := GoodG g) (fun h => by have := h.lefts; rw [hra] at this; have := Option.some.inj this; unfold symZ at this; omega)]; rfl
end Go.Proofs.Ytfjfbapiheehaaa.V
end
section
set_option linter.unusedVariables false
set_option linter.unusedSimpArgs false
namespace Go.Proofs.Ytfjfbapiheehaaa.V
open Go Go.RowKit
set_option maxHeartbeats 2000000 in
theorem ends_v {g : Gr} {x : Spot} {i j : Nat} {r : Ru} {s : Int} {a b : Nat} (hg : Sized g) (h : SpotAt g x i j r s a b) : VCalls Try.prog 41 [gV g, pV x] [] 0 (Gives (.tup [.val (.int .i64 (a : Int)), .val (.int .i64 (b : Int))])) := by
 obtain ⟨rfl, hr, hs, hl, hy, ha, hb, _⟩ := h
 have ht := hg.terms
 have hn := hg.names
 have e1 : r.left - (g.terms.length : Int) = (a : Int) := by omega
 have e2 : s - (g.terms.length : Int) = (b : Int) := by omega
 refine VCalls.enterD (n := 29) Try.func41 rfl rfl (by simp) rfl (fun cx hcx => ?_)
 (repeat (first | ((with_reducible refine VOps.same ?_); (first | (refine VOps.nil ?_; try dsimp only [VThen, VBlock]) | refine VOps.vP (VPure.assign rfl rfl) ?_ | refine VOps.vP (VPure.len_map TI.und' rfl rfl) ?_ | refine VOps.vP (VPure.idx_map rfl rfl rfl (by assumption)) ?_ | refine VOps.vP (VPure.field_ptr rfl rfl rfl) ?_ | refine VOps.vV (VLoad.el1 rfl rfl rfl (by rfl)) ?_ | refine VOps.vV (VLoad.box1 rfl rfl rfl rfl (by rfl) (by decide)) ?_ | refine VOps.vV (VLoad.elA rfl rfl (by rfl) (leR (by rfl))) ?_ | refine VOps.vP (VPure.subK rfl rfl rfl (by omega)) ?_ | refine VOps.alloc rfl rfl (by kernel_rfl) rfl (by kernel_rfl) rfl ?_ | refine VOps.box rfl rfl (by kernel_rfl) rfl rfl rfl rfl ?_ | refine VOps.store rfl rfl (by kernel_rfl) rfl rfl rfl rfl rfl rfl (leR (by rfl)) rfl ?_)) | refine VCode.seq ?_ | refine VCode.region rfl ?_ | refine VCode.draw [] rfl ?_))
 refine VCode.retD rfl rfl (.tmp rfl (.tmp rfl .nil)) ?_
 rw [e1, e2]; rfl
set_option maxHeartbeats 4000000 in
theorem spots_o (g : Gr) (hg : Sized g) : VCalls Try.prog 18 [gV g] [] 0 (Leaves (.ref 0) [(0, .arr 44 2 ((spots g).map encP))] 1) := by
 have ht := hg.terms
 have hn := hg.names
 have hr := hg.rules
 refine VCalls.enterL (n := 40) Try.func18 rfl rfl (by simp) (fun cx hcx => ?_)
 (repeat (first | ((with_reducible refine VOps.same ?_); (first | (refine VOps.nil ?_; try dsimp only [VThen, VBlock]) | refine VOps.vP (VPure.assign rfl rfl) ?_ | refine VOps.vV (VLoad.boxA rfl rfl rfl (by rfl) (leR (by rfl)) (by decide)) ?_ | refine VOps.box rfl rfl (by kernel_rfl) rfl rfl rfl rfl ?_)) | refine VCode.seq ?_ | refine VCode.region rfl ?_))
 refine VOps.pure rfl Try.func35 rfl (by kernel_rfl) rfl rfl rfl rfl rfl rfl rfl (good_v g hg) ?_
 (repeat (first | ((with_reducible refine VOps.same ?_); (first | (refine VOps.nil ?_; try dsimp only [VThen, VBlock]) | refine VOps.vP (VPure.not rfl rfl) ?_))))
 refine VCode.cond rfl (fun h1 => ?_) (fun h1 => ?_)
 ·(repeat (first | ((with_reducible refine VOps.same ?_); (first | (refine VOps.nil ?_; try dsimp only [VThen, VBlock]) | refine VOps.vP (VPure.assign rfl rfl) ?_)) | refine VCode.seq ?_ | refine VCode.region rfl ?_))
  refine VCode.nilObj 2 44 2 rfl ?_
  refine VCode.ret ?_
  have hs : ([] : List (List D)) = (spots g).map encP := by unfold spots; rw [if_neg (by simpa using h1)]; rfl
  refine Less.mkx (l := [1]) (st' := ⟨[(2, .ref 0)], [(0, .arr 44 2 ((spots g).map encP))], 1⟩) 0 hcx (Nat.zero_le _) (fun i h => by omega) ?ss ?hh rfl (by decide) rfl ⟨_, .tmp rfl .nil, rfl, rfl, rfl⟩
  case ss => exact SubS.cons rfl rfl .nil
  case hh => rw [← hs]; exact SubH.cons rfl rfl rfl .nil
 have hG : GoodG g := by simpa using h1
 have h8 : ∀ r ∈ g.rules, r.right.length ≤ 8 := fun r hr => by
  obtain ⟨i, hi⟩ := List.getElem?_of_mem hr
  exact (hG.rules.2.2 i r hi).2.2.1
 have h60 := hG.rules.2.1
 (repeat (first | ((with_reducible refine VOps.same ?_); (first | (refine VOps.nil ?_; try dsimp only [VThen, VBlock]) | refine VOps.vP (VPure.move rfl rfl) ?_ | refine VOps.vP (VPure.assign rfl rfl) ?_ | refine VOps.vP (VPure.len_map TI.und' rfl rfl) ?_ | refine VOps.vP (VPure.field_ptr rfl rfl rfl) ?_ | refine VOps.vV (VLoad.box1 rfl rfl rfl rfl (by rfl) (by decide)) ?_)) | refine VCode.seq ?_ | refine VCode.region rfl ?_ | refine VCode.block ?_ | refine VCode.skip ?_))
 refine VCode.nilObj 3 44 2 rfl ?_
 skip
 refine VCode.loop (fun m st => ∃ (k : Nat) (out : List Spot), k ≤ g.rules.length ∧ m = g.rules.length - k ∧ out = spotsG g 0 (g.rules.take k) ∧ st = ⟨[(14, .val (.int .i64 (k : Int))), (13, .val (.int .i64 (g.rules.length : Int))), (12, .sl 2 (g.rules.map encR)), (3, .ref 1), (1, .ptr 0 0)], [(0, gO g), (1, .arr 44 2 (out.map encP))], 2⟩) g.rules.length ?_ ?_
 ·(refine Less.mk (l := [0, 1]) hcx ?ss ?hh rfl (by decide) rfl ⟨0, [], by omega, by omega, rfl, rfl⟩; (case ss => repeat (first | exact SubS.nil | refine SubS.cons rfl rfl ?_ | refine SubS.cons (ciI (by omega)) rfl ?_ | refine SubS.cons (ciB (by assumption)) rfl ?_)); (case hh => repeat (first | exact SubH.nil | refine SubH.cons rfl rfl rfl ?_)))
 rintro m st ⟨k, out, hk, rfl, hout, rfl⟩
 cases hq : g.rules[k]? with
 | some r =>
  have hlt : k < g.rules.length := (List.getElem?_eq_some_iff.1 hq).1
  have hr8 := h8 r (List.mem_of_getElem? hq)
  have hl1 := spotsG_len g (m := 8) (g.rules.take k) (fun r hr => h8 r (List.mem_of_mem_take hr)) 0
  rw [List.length_take, ← hout] at hl1
  (repeat (first | ((with_reducible refine VOps.same ?_); (first | (refine VOps.nil ?_; try dsimp only [VThen, VBlock]) | refine VOps.vP (VPure.lss rfl rfl rfl) ?_)) | refine VCode.seq ?_ | refine VCode.region rfl ?_))
  refine VCode.cond_t rfl (decide_eq_true (by omega)) ?_
  (repeat (first | ((with_reducible refine VOps.same ?_); (first | (refine VOps.nil ?_; try dsimp only [VThen, VBlock]) | refine VOps.vP (VPure.move rfl rfl) ?_ | refine VOps.vP (VPure.assign rfl rfl) ?_ | refine VOps.vP (VPure.len_map TI.und' rfl rfl) ?_ | refine VOps.vP (VPure.idx_map rfl rfl rfl (by assumption)) ?_ | refine VOps.vP (VPure.field_ptr rfl rfl rfl) ?_ | refine VOps.vV (VLoad.box1 rfl rfl rfl rfl (by rfl) (by decide)) ?_ | refine VOps.vV (VLoad.elA rfl rfl (by rfl) (leR (by rfl))) ?_ | refine VOps.alloc rfl rfl (by kernel_rfl) rfl (by kernel_rfl) rfl ?_ | refine VOps.store rfl rfl (by kernel_rfl) rfl rfl rfl rfl rfl rfl (leR (by rfl)) rfl ?_)) | refine VCode.seq ?_ | refine VCode.region rfl ?_ | refine VCode.block ?_ | refine VCode.skip ?_))
  refine VCode.loop (fun m st => ∃ (j : Nat) (out2 : List Spot), j ≤ r.right.length ∧ m = r.right.length - j ∧ out2 = out ++ spotsF g k 0 (r.right.take j) ∧ st = ⟨[(22, .val (.int .i64 (j : Int))), (21, .val (.int .i64 (r.right.length : Int))), (20, .sl 1 (r.right.map encI)), (4, .val (.int .i64 (k : Int))), (14, .val (.int .i64 (k : Int))), (13, .val (.int .i64 (g.rules.length : Int))), (12, .sl 2 (g.rules.map encR)), (3, .ref 1), (1, .ptr 0 0)], [(0, gO g), (1, .arr 44 2 (out2.map encP))], 2⟩) r.right.length ?_ ?_
  ·(refine Less.mk (l := [0, 1]) hcx ?ss ?hh rfl (by decide) rfl ⟨0, out, by omega, by omega, by simp [spotsF], rfl⟩; (case ss => repeat (first | exact SubS.nil | refine SubS.cons rfl rfl ?_ | refine SubS.cons (ciI (by omega)) rfl ?_ | refine SubS.cons (ciB (by assumption)) rfl ?_)); (case hh => repeat (first | exact SubH.nil | refine SubH.cons rfl rfl rfl ?_)))
  rintro m st ⟨j, out2, hj, rfl, hout2, rfl⟩
  cases hs : r.right[j]? with
  | some s =>
   have hlt2 : j < r.right.length := (List.getElem?_eq_some_iff.1 hs).1
   have hl2 := spotsF_len g k (r.right.take j) 0
   have hl3 := congrArg List.length hout2
   rw [List.length_append] at hl3
   rw [List.length_take] at hl2
   have hst := spotsF_succ g k hs
   (repeat (first | ((with_reducible refine VOps.same ?_); (first | (refine VOps.nil ?_; try dsimp only [VThen, VBlock]) | refine VOps.vP (VPure.lss rfl rfl rfl) ?_)) | refine VCode.seq ?_ | refine VCode.region rfl ?_))
   refine VCode.cond_t rfl (decide_eq_true (by omega)) ?_
   (repeat (first | ((with_reducible refine VOps.same ?_); (first | (refine VOps.nil ?_; try dsimp only [VThen, VBlock]) | refine VOps.vP (VPure.move rfl rfl) ?_ | refine VOps.vP (VPure.assign rfl rfl) ?_ | refine VOps.vP (VPure.idx_map rfl rfl rfl (by assumption)) ?_ | refine VOps.vV (VLoad.el1 rfl rfl rfl (by rfl)) ?_ | refine VOps.vV (VLoad.boxA rfl rfl rfl (by rfl) (leR (by rfl)) (by decide)) ?_)) | refine VCode.seq ?_ | refine VCode.region rfl ?_ | refine VCode.block ?_ | refine VCode.skip ?_))
   refine VOps.pure rfl Try.func38 rfl (by kernel_rfl) rfl rfl rfl rfl rfl rfl rfl (term1_v g s (by omega)) ?_
   (repeat (first | ((with_reducible refine VOps.same ?_); (first | (refine VOps.nil ?_; try dsimp only [VThen, VBlock]) | refine VOps.vP (VPure.not rfl rfl) ?_))))
   refine VCode.cond rfl (fun hb => ?_) (fun hb => ?_)
   ·rw [if_neg (by simpa using hb)] at hst
    (repeat (first | ((with_reducible refine VOps.same ?_); (first | refine VOps.vP (VPure.move rfl rfl) ?_ | refine VOps.vP (VPure.buildC rfl (by kernel_rfl) rfl (by rfl)) ?_ | refine VOps.one rfl rfl (by kernel_rfl) rfl (by rfl) (by decide) (by decide) rfl (by rfl) (by rfl) ?_)) | refine VCode.region rfl ?_))
    refine VOps.append (zs := (out2 ++ [((k : Int), (j : Int))]).map encP) rfl rfl (by kernel_rfl) rfl (by rfl) (by decide) rfl (.arr rfl) rfl (.arr rfl) (by simp only [List.length_append, List.length_cons, List.length_nil, List.length_map]; unfold most; omega) (by simp only [List.length_append, List.length_cons, List.length_nil, List.length_map]; unfold most; omega) rfl ( by simp [encP]) ?_
    (repeat (first | ((with_reducible refine VOps.same ?_); (first | (refine VOps.nil ?_; try dsimp only [VThen, VBlock]) | refine VOps.vP (VPure.move rfl rfl) ?_ | refine VOps.vP (VPure.assign rfl rfl) ?_ | refine VOps.vP (VPure.addK rfl rfl rfl (by omega)) ?_)) | refine VCode.region rfl ?_))
    (refine Less.mk (l := [0, 3]) hcx ?ss ?hh rfl (by decide) rfl ⟨_, ?_, j + 1, out2 ++ [((k : Int), (j : Int))], by omega, rfl, by rw [hst, hout2, List.append_assoc], rfl⟩; (case ss => repeat (first | exact SubS.nil | refine SubS.cons rfl rfl ?_ | refine SubS.cons (ciI (by omega)) rfl ?_ | refine SubS.cons (ciB (by assumption)) rfl ?_)); (case hh => repeat (first | exact SubH.nil | refine SubH.cons rfl rfl rfl ?_)))
    omega
   ·rw [if_pos (by simpa using hb), List.append_nil] at hst
    (repeat (first | ((with_reducible refine VOps.same ?_); (first | (refine VOps.nil ?_; try dsimp only [VThen, VBlock]) | refine VOps.vP (VPure.move rfl rfl) ?_ | refine VOps.vP (VPure.addK rfl rfl rfl (by omega)) ?_)) | refine VCode.region rfl ?_ | refine VCode.skip ?_))
    (refine Less.mk (l := [0, 1]) hcx ?ss ?hh rfl (by decide) rfl ⟨_, ?_, j + 1, out2, by omega, rfl, by rw [hst, hout2], rfl⟩; (case ss => repeat (first | exact SubS.nil | refine SubS.cons rfl rfl ?_ | refine SubS.cons (ciI (by omega)) rfl ?_ | refine SubS.cons (ciB (by assumption)) rfl ?_)); (case hh => repeat (first | exact SubH.nil | refine SubH.cons rfl rfl rfl ?_)))
    omega
  | none =>
   have hge : r.right.length ≤ j := List.getElem?_eq_none_iff.1 hs
   (repeat (first | ((with_reducible refine VOps.same ?_); (first | (refine VOps.nil ?_; try dsimp only [VThen, VBlock]) | refine VOps.vP (VPure.lss rfl rfl rfl) ?_)) | refine VCode.seq ?_ | refine VCode.region rfl ?_))
   refine VCode.cond_f rfl (decide_eq_false (by omega)) ?_
   (repeat (first | ((with_reducible refine VOps.same ?_); (first | (refine VOps.nil ?_; try dsimp only [VThen, VBlock]) | refine VOps.vP (VPure.move rfl rfl) ?_ | refine VOps.vP (VPure.addK rfl rfl rfl (by omega)) ?_)) | refine VCode.region rfl ?_ | refine VCode.exit ?_))
   (refine Less.mk (l := [0, 1]) hcx ?ss ?hh rfl (by decide) rfl ⟨_, ?_, k + 1, out2, by omega, rfl, by rw [spotsG_succ g hq, hout2, hout, List.take_of_length_le hge], rfl⟩; (case ss => repeat (first | exact SubS.nil | refine SubS.cons rfl rfl ?_ | refine SubS.cons (ciI (by omega)) rfl ?_ | refine SubS.cons (ciB (by assumption)) rfl ?_)); (case hh => repeat (first | exact SubH.nil | refine SubH.cons rfl rfl rfl ?_)))
   omega
 | none =>
  have hge : g.rules.length ≤ k := List.getElem?_eq_none_iff.1 hq
  (repeat (first | ((with_reducible refine VOps.same ?_); (first | (refine VOps.nil ?_; try dsimp only [VThen, VBlock]) | refine VOps.vP (VPure.lss rfl rfl rfl) ?_)) | refine VCode.seq ?_ | refine VCode.region rfl ?_))
  refine VCode.cond_f rfl (decide_eq_false (by omega)) ?_
  (repeat (first | ((with_reducible refine VOps.same ?_); (first | (refine VOps.nil ?_; try dsimp only [VThen, VBlock]) | refine VOps.vP (VPure.move rfl rfl) ?_ | refine VOps.vP (VPure.assign rfl rfl) ?_)) | refine VCode.seq ?_ | refine VCode.region rfl ?_ | refine VCode.exit ?_))
  refine VCode.ret ?_
  have hs : out = spots g := by unfold spots; rw [hout, if_pos hG, List.take_of_length_le hge]
  subst hs
  (show Less cx _ _; refine Less.mkx (l := [1]) (st' := ⟨[(2, .ref 0)], [(0, .arr 44 2 ((spots g).map encP))], 1⟩) 0 hcx (Nat.le_of_ble_eq_true rfl) (by decide) ?ss ?hh rfl (by decide) rfl ⟨_, (.tmp rfl .nil), rfl, rfl, rfl⟩; (case ss => repeat (first | exact SubS.nil | refine SubS.cons rfl rfl ?_ | refine SubS.cons (ciI (by omega)) rfl ?_ | refine SubS.cons (ciB (by assumption)) rfl ?_)); (case hh => repeat (first | exact SubH.nil | refine SubH.cons rfl rfl rfl ?_)))
set_option maxHeartbeats 4000000 in
theorem rspots_v (g : Gr) (hg : Sized g) : VCalls Try.prog 19 [gV g] [] 0 (Gives (.sl 2 ((spots g).map encP))) := by
 have ht := hg.terms
 have hn := hg.names
 have hr := hg.rules
 refine VCalls.enterD (n := 48) Try.func19 rfl rfl (by simp) rfl (fun cx hcx => ?_)
 (repeat (first | ((with_reducible refine VOps.same ?_); (first | (refine VOps.nil ?_; try dsimp only [VThen, VBlock]) | refine VOps.vP (VPure.assign rfl rfl) ?_ | refine VOps.box rfl rfl (by kernel_rfl) rfl rfl rfl rfl ?_)) | refine VCode.seq ?_ | refine VCode.region rfl ?_ | refine VCode.block ?_))
 refine VCode.nilObj 3 44 2 rfl ?_
 skip
 refine VCode.loop (fun m st => ∃ (k : Nat) (out : List Spot), k ≤ g.rules.length ∧ m = g.rules.length - k ∧ (1 ≤ k → GoodG g) ∧ out = spotsG g 0 (g.rules.take k) ∧ st = ⟨[(4, .val (.int .i64 (k : Int))), (3, .ref 1), (1, .ptr 0 0)], [(0, gO g), (1, .arr 44 2 (out.map encP))], 2⟩) g.rules.length ?_ ?_
 ·(refine Less.mk (l := [0, 1]) hcx ?ss ?hh rfl (by decide) rfl ⟨0, [], by omega, by omega, (fun h => by omega), rfl, rfl⟩; (case ss => repeat (first | exact SubS.nil | refine SubS.cons rfl rfl ?_ | refine SubS.cons (ciI (by omega)) rfl ?_ | refine SubS.cons (ciB (by assumption)) rfl ?_)); (case hh => repeat (first | exact SubH.nil | refine SubH.cons rfl rfl rfl ?_)))
 rintro m st ⟨k, out, hk, rfl, hG1, hout, rfl⟩
 (repeat (first | ((with_reducible refine VOps.same ?_); (first | refine VOps.vP (VPure.move rfl rfl) ?_ | refine VOps.vP (VPure.len_map TI.und' rfl rfl) ?_ | refine VOps.vP (VPure.field_ptr rfl rfl rfl) ?_ | refine VOps.vV (VLoad.box1 rfl rfl rfl rfl (by rfl) (by decide)) ?_ | refine VOps.vP (VPure.lss rfl rfl rfl) ?_)) | refine VCode.seq ?_ | refine VCode.region rfl ?_))
 refine VOps.bool (d := 11) rfl (fun c1 => ?_) (fun c1 => ?_)
 ·have hlt : k < g.rules.length := by have := of_decide_eq_true c1; omega
  obtain ⟨r, hq⟩ : ∃ r, g.rules[k]? = some r := ⟨_, List.getElem?_eq_getElem hlt⟩
  (repeat (first | ((with_reducible refine VOps.same ?_); (first | refine VOps.vV (VLoad.boxA rfl rfl rfl (by rfl) (leR (by rfl)) (by decide)) ?_))))
  refine VOps.pure rfl Try.func26 rfl (by kernel_rfl) rfl rfl rfl rfl rfl rfl rfl (rgood_v g hg) ?_
  (repeat (first | ((with_reducible refine VOps.same ?_); (first | (refine VOps.nil ?_; try dsimp only [VThen, VBlock]) | refine VOps.vP (VPure.pick_t rfl rfl rfl) ?_))))
  refine VCode.cond rfl (fun h1 => ?_) (fun h1 => ?_)
  ·have hG : GoodG g := by simpa using h1
   have h8 : ∀ r ∈ g.rules, r.right.length ≤ 8 := fun r hr => by
    obtain ⟨i, hi⟩ := List.getElem?_of_mem hr
    exact (hG.rules.2.2 i r hi).2.2.1
   have h60 := hG.rules.2.1
   have hr8 := h8 r (List.mem_of_getElem? hq)
   have hl1 := spotsG_len g (m := 8) (g.rules.take k) (fun r hr => h8 r (List.mem_of_mem_take hr)) 0
   rw [List.length_take, ← hout] at hl1
   (repeat (first | ((with_reducible refine VOps.same ?_); (first | (refine VOps.nil ?_; try dsimp only [VThen, VBlock]) | refine VOps.vP (VPure.assign rfl rfl) ?_)) | refine VCode.seq ?_ | refine VCode.region rfl ?_ | refine VCode.block ?_ | refine VCode.skip ?_))
   refine VCode.loop (fun m st => ∃ (j : Nat) (out2 : List Spot), j ≤ r.right.length ∧ m = r.right.length - j ∧ out2 = out ++ spotsF g k 0 (r.right.take j) ∧ st = ⟨[(5, .val (.int .i64 (j : Int))), (4, .val (.int .i64 (k : Int))), (3, .ref 1), (1, .ptr 0 0)], [(0, gO g), (1, .arr 44 2 (out2.map encP))], 2⟩) r.right.length ?_ ?_
   ·(refine Less.mk (l := [0, 1]) hcx ?ss ?hh rfl (by decide) rfl ⟨0, out, by omega, by omega, by simp [spotsF], rfl⟩; (case ss => repeat (first | exact SubS.nil | refine SubS.cons rfl rfl ?_ | refine SubS.cons (ciI (by omega)) rfl ?_ | refine SubS.cons (ciB (by assumption)) rfl ?_)); (case hh => repeat (first | exact SubH.nil | refine SubH.cons rfl rfl rfl ?_)))
   rintro m st ⟨j, out2, hj, rfl, hout2, rfl⟩
   cases hs : r.right[j]? with
   | some s =>
    have hlt2 : j < r.right.length := (List.getElem?_eq_some_iff.1 hs).1
    have hl2 := spotsF_len g k (r.right.take j) 0
    have hl3 := congrArg List.length hout2
    rw [List.length_append] at hl3
    rw [List.length_take] at hl2
    have hst := spotsF_succ g k hs
    have hs0 := ((hG.rules.2.2 k r hq).2.2.2.2 s (List.mem_of_getElem? hs)).1
    (repeat (first | ((with_reducible refine VOps.same ?_); (first | (refine VOps.nil ?_; try dsimp only [VThen, VBlock]) | refine VOps.vP (VPure.move rfl rfl) ?_ | refine VOps.vP (VPure.len_map TI.und' rfl rfl) ?_ | refine VOps.vP (VPure.idx_map rfl rfl rfl (by assumption)) ?_ | refine VOps.vP (VPure.field_el rfl rfl) ?_ | refine VOps.vP (VPure.field_ptr rfl rfl rfl) ?_ | refine VOps.vV (VLoad.el1 rfl rfl rfl (by rfl)) ?_ | refine VOps.vV (VLoad.box1 rfl rfl rfl rfl (by rfl) (by decide)) ?_ | refine VOps.vP (VPure.lss rfl rfl rfl) ?_)) | refine VCode.seq ?_ | refine VCode.region rfl ?_))
    refine VCode.cond_t rfl (decide_eq_true (by omega)) ?_
    (repeat (first | ((with_reducible refine VOps.same ?_); (first | (refine VOps.nil ?_; try dsimp only [VThen, VBlock]) | refine VOps.vP (VPure.move rfl rfl) ?_ | refine VOps.vP (VPure.len_map TI.und' rfl rfl) ?_ | refine VOps.vP (VPure.idx_map rfl rfl rfl (by assumption)) ?_ | refine VOps.vP (VPure.field_el rfl rfl) ?_ | refine VOps.vP (VPure.field_ptr rfl rfl rfl) ?_ | refine VOps.vV (VLoad.el1 rfl rfl rfl (by rfl)) ?_ | refine VOps.vV (VLoad.box1 rfl rfl rfl rfl (by rfl) (by decide)) ?_ | refine VOps.vP (VPure.geq rfl rfl rfl) ?_)) | refine VCode.seq ?_ | refine VCode.draw [] rfl ?_ | refine VCode.block ?_ | refine VCode.skip ?_))
    refine VCode.cond rfl (fun hb => ?_) (fun hb => ?_)
    ·rw [if_neg (by have := of_decide_eq_true hb; unfold isT; rw [decide_eq_false (p := s < _) (by omega)]; simp)] at hst
     (repeat (first | ((with_reducible refine VOps.same ?_); (first | refine VOps.vP (VPure.move rfl rfl) ?_ | refine VOps.vP (VPure.buildC rfl (by kernel_rfl) rfl (by rfl)) ?_ | refine VOps.one rfl rfl (by kernel_rfl) rfl (by rfl) (by decide) (by decide) rfl (by rfl) (by rfl) ?_)) | refine VCode.region rfl ?_))
     refine VOps.append (zs := (out2 ++ [((k : Int), (j : Int))]).map encP) rfl rfl (by kernel_rfl) rfl (by rfl) (by decide) rfl (.arr rfl) rfl (.arr rfl) (by simp only [List.length_append, List.length_cons, List.length_nil, List.length_map]; unfold most; omega) (by simp only [List.length_append, List.length_cons, List.length_nil, List.length_map]; unfold most; omega) rfl ( by simp [encP]) ?_
     (repeat (first | ((with_reducible refine VOps.same ?_); (first | (refine VOps.nil ?_; try dsimp only [VThen, VBlock]) | refine VOps.vP (VPure.move rfl rfl) ?_ | refine VOps.vP (VPure.assign rfl rfl) ?_ | refine VOps.vP (VPure.addK rfl rfl rfl (by omega)) ?_)) | refine VCode.region rfl ?_))
     (refine Less.mk (l := [0, 3]) hcx ?ss ?hh rfl (by decide) rfl ⟨_, ?_, j + 1, out2 ++ [((k : Int), (j : Int))], by omega, rfl, by rw [hst, hout2, List.append_assoc], rfl⟩; (case ss => repeat (first | exact SubS.nil | refine SubS.cons rfl rfl ?_ | refine SubS.cons (ciI (by omega)) rfl ?_ | refine SubS.cons (ciB (by assumption)) rfl ?_)); (case hh => repeat (first | exact SubH.nil | refine SubH.cons rfl rfl rfl ?_)))
     omega
    ·rw [if_pos (by have := of_decide_eq_false hb; unfold isT; rw [decide_eq_true (p := s < _) (by omega), decide_eq_true (p := 0 ≤ s) hs0]; rfl), List.append_nil] at hst
     (repeat (first | ((with_reducible refine VOps.same ?_); (first | (refine VOps.nil ?_; try dsimp only [VThen, VBlock]) | refine VOps.vP (VPure.move rfl rfl) ?_ | refine VOps.vP (VPure.assign rfl rfl) ?_ | refine VOps.vP (VPure.addK rfl rfl rfl (by omega)) ?_)) | refine VCode.region rfl ?_ | refine VCode.skip ?_))
     (refine Less.mk (l := [0, 1]) hcx ?ss ?hh rfl (by decide) rfl ⟨_, ?_, j + 1, out2, by omega, rfl, by rw [hst, hout2], rfl⟩; (case ss => repeat (first | exact SubS.nil | refine SubS.cons rfl rfl ?_ | refine SubS.cons (ciI (by omega)) rfl ?_ | refine SubS.cons (ciB (by assumption)) rfl ?_)); (case hh => repeat (first | exact SubH.nil | refine SubH.cons rfl rfl rfl ?_)))
     omega
   | none =>
    have hge : r.right.length ≤ j := List.getElem?_eq_none_iff.1 hs
    (repeat (first | ((with_reducible refine VOps.same ?_); (first | (refine VOps.nil ?_; try dsimp only [VThen, VBlock]) | refine VOps.vP (VPure.move rfl rfl) ?_ | refine VOps.vP (VPure.len_map TI.und' rfl rfl) ?_ | refine VOps.vP (VPure.idx_map rfl rfl rfl (by assumption)) ?_ | refine VOps.vP (VPure.field_el rfl rfl) ?_ | refine VOps.vP (VPure.field_ptr rfl rfl rfl) ?_ | refine VOps.vV (VLoad.el1 rfl rfl rfl (by rfl)) ?_ | refine VOps.vV (VLoad.box1 rfl rfl rfl rfl (by rfl) (by decide)) ?_ | refine VOps.vP (VPure.lss rfl rfl rfl) ?_)) | refine VCode.seq ?_ | refine VCode.region rfl ?_))
    refine VCode.cond_f rfl (decide_eq_false (by omega)) ?_
    (repeat (first | ((with_reducible refine VOps.same ?_); (first | (refine VOps.nil ?_; try dsimp only [VThen, VBlock]) | refine VOps.vP (VPure.move rfl rfl) ?_ | refine VOps.vP (VPure.assign rfl rfl) ?_ | refine VOps.vP (VPure.addK rfl rfl rfl (by omega)) ?_)) | refine VCode.region rfl ?_ | refine VCode.exit ?_))
    (refine Less.mk (l := [0, 1]) hcx ?ss ?hh rfl (by decide) rfl ⟨_, ?_, k + 1, out2, by omega, rfl, (fun _ => hG), by rw [spotsG_succ g hq, hout2, hout, List.take_of_length_le hge], rfl⟩; (case ss => repeat (first | exact SubS.nil | refine SubS.cons rfl rfl ?_ | refine SubS.cons (ciI (by omega)) rfl ?_ | refine SubS.cons (ciB (by assumption)) rfl ?_)); (case hh => repeat (first | exact SubH.nil | refine SubH.cons rfl rfl rfl ?_)))
    omega
  ·(repeat (first | ((with_reducible refine VOps.same ?_); (first | (refine VOps.nil ?_; try dsimp only [VThen, VBlock]) | refine VOps.vP (VPure.move rfl rfl) ?_ | refine VOps.vP (VPure.assign rfl rfl) ?_)) | refine VCode.seq ?_ | refine VCode.region rfl ?_ | refine VCode.exit ?_))
   refine VCode.freeze (id := 1) rfl ?_
   refine VCode.retD rfl rfl (.tmp rfl .nil) ?_
   have hk0 : k = 0 := by
    rcases Nat.eq_zero_or_pos k with h | h
    ·exact h
    ·have := hG1 h; rw [decide_eq_true this] at h1; cases h1
   subst hk0
   have : spots g = [] := by unfold spots; rw [if_neg (by simpa using h1)]
   rw [this, hout]; rfl
 ·have hge : g.rules.length ≤ k := by have := of_decide_eq_false c1; omega
  (repeat (first | ((with_reducible refine VOps.same ?_); (first | (refine VOps.nil ?_; try dsimp only [VThen, VBlock]) | refine VOps.vP (VPure.pick_f rfl rfl rfl) ?_ | refine VOps.passv rfl (by kernel_rfl) rfl ?_))))
  refine VCode.cond_f rfl rfl ?_
  (repeat (first | ((with_reducible refine VOps.same ?_); (first | (refine VOps.nil ?_; try dsimp only [VThen, VBlock]) | refine VOps.vP (VPure.move rfl rfl) ?_ | refine VOps.vP (VPure.assign rfl rfl) ?_)) | refine VCode.seq ?_ | refine VCode.region rfl ?_ | refine VCode.exit ?_))
  refine VCode.freeze (id := 1) rfl ?_
  refine VCode.retD rfl rfl (.tmp rfl .nil) ?_
  have : out = spots g := by
   rw [hout]
   unfold spots
   by_cases hG : GoodG g
   ·rw [if_pos hG, List.take_of_length_le hge]
   ·rw [if_neg hG]
    have hk0 : k = 0 := by
     rcases Nat.eq_zero_or_pos k with h | h
     ·exact h
     ·exact absurd (hG1 h) hG
    subst hk0; rfl
  rw [this]; rfl
end Go.Proofs.Ytfjfbapiheehaaa.V
end
section
set_option linter.unusedVariables false
set_option linter.unusedSimpArgs false
namespace Go.Proofs.Ytfjfbapiheehaaa.V
open Go Go.RowKit
theorem firstAt_cases {α : Type} (p : α → Bool) (l : List α) : (firstAt p l = -1 ∧ ∀ x ∈ l, p x = false) ∨ ∃ (k : Nat) (y : α), firstAt p l = (k : Int) ∧ l[k]? = some y ∧ p y = true ∧ ∀ x ∈ l.take k, p x = false := by
 unfold firstAt
 cases h : l.findIdx? p with
 | none => rw [List.findIdx?_eq_none_iff] at h; exact .inl ⟨rfl, h⟩
 | some k =>
  rw [List.findIdx?_eq_some_iff_getElem] at h
  obtain ⟨hlt, h1, h2⟩ := h
  refine .inr ⟨k, l[k], rfl, List.getElem?_eq_getElem hlt, h1, fun x hx => ?_⟩
  obtain ⟨j, hj, rfl⟩ := List.mem_take_iff_getElem.1 hx
  have := h2 j (by omega)
  simpa using this
structure Kept {α : Type} (p : α → Bool) (l ys : List α) (i j : Nat) : Prop where
 len : ys.length = l.length
 lt : i < j
 le : j ≤ l.length
 kept : ys.take i = (l.take j).filter fun x => !p x
 cnt : i = ((l.take j).filter fun x => !p x).length
 rest : ys.drop j = l.drop j
theorem Kept.get {α : Type} {p : α → Bool} {l ys : List α} {i j k : Nat} (h : Kept p l ys i j) (hk : j ≤ k) : ys[k]? = l[k]? := by
 have := congrArg (fun z : List α => z[k - j]?) h.rest
 simp only [List.getElem?_drop] at this
 rwa [show j + (k - j) = k by omega] at this
theorem take_filter {α : Type} {p : α → Bool} {l : List α} {j : Nat} {e : α} (h : l[j]? = some e) : (l.take (j + 1)).filter p = (l.take j).filter p ++ if p e then [e] else [] := by
 rw [List.take_add_one, h, List.filter_append]
 cases hp : p e <;> simp [hp]
theorem Kept.start {α : Type} {p : α → Bool} {l : List α} {k : Nat} {y : α} (hk : l[k]? = some y) (hy : p y = true) (hno : ∀ x ∈ l.take k, p x = false) : Kept p l l k (k + 1) := by
 have hlt : k < l.length := (List.getElem?_eq_some_iff.1 hk).1
 have e : (l.take (k + 1)).filter (fun x => !p x) = l.take k := by
  rw [take_filter hk, hy, List.filter_eq_self.2 (fun x hx => by rw [hno x hx]; rfl)]; simp
 exact ⟨rfl, by omega, by omega, e.symm, by rw [e, List.length_take]; omega, rfl⟩
theorem Kept.keep {α : Type} {p : α → Bool} {l ys : List α} {i j : Nat} {e : α} (h : Kept p l ys i j) (he : l[j]? = some e) (hp : p e = false) : Kept p l (ys.set i e) (i + 1) (j + 1) := by
 have hlt : j < l.length := (List.getElem?_eq_some_iff.1 he).1
 have hl := h.lt
 have hys := h.len
 have e1 : (l.take (j + 1)).filter (fun x => !p x) = (l.take j).filter (fun x => !p x) ++ [e] := by rw [take_filter he, hp]; rfl
 refine ⟨by rw [List.length_set, hys], by omega, by omega, ?_, by rw [e1, List.length_append, ← h.cnt]; rfl, ?_⟩
 ·rw [e1, ← h.kept]
  rw [List.take_add_one, List.getElem?_set, if_pos rfl, if_pos (by omega)]
  simp [List.take_set_of_le (Nat.le_refl i)]
 ·rw [List.drop_set_of_lt (by omega)]
  have := congrArg (fun z : List α => z.drop 1) h.rest
  simpa [List.drop_drop, Nat.add_comm] using this
theorem Kept.drop {α : Type} {p : α → Bool} {l ys : List α} {i j : Nat} {e : α} (h : Kept p l ys i j) (he : l[j]? = some e) (hp : p e = true) : Kept p l ys i (j + 1) := by
 have hlt : j < l.length := (List.getElem?_eq_some_iff.1 he).1
 have hl := h.lt
 have e1 : (l.take (j + 1)).filter (fun x => !p x) = (l.take j).filter (fun x => !p x) := by rw [take_filter he, hp]; simp
 refine ⟨h.len, by omega, by omega, by rw [e1, h.kept], by rw [e1, ← h.cnt], ?_⟩
 have := congrArg (fun z : List α => z.drop 1) h.rest
 simpa [List.drop_drop, Nat.add_comm] using this
theorem Kept.done {α : Type} {p : α → Bool} {l ys : List α} {i : Nat} (h : Kept p l ys i l.length) : ys.take i = l.filter fun x => !p x := by
 rw [h.kept, List.take_length]
abbrev wO (w : List Spot) : O := .cells 26 [sV w]
set_option maxHeartbeats 1000000 in
theorem rest1_v (w : List Spot) (x : Spot) (hw : w.length ≤ 1000000) : VCalls Try.prog 64 [pV x, .ptr 0 0] [(0, wO w)] 1 (Leaves (.val (.bool (isIn w x))) [(0, wO w)] 1) := by
 refine VCalls.enterL (n := 7) Try.func64 rfl rfl (by simp) (fun cx hcx => ?_)
 (repeat (first | ((with_reducible refine VOps.same ?_); (first | (refine VOps.nil ?_; try dsimp only [VThen, VBlock]) | refine VOps.vP (VPure.assign rfl rfl) ?_ | refine VOps.vV (VLoad.box1 rfl rfl rfl rfl (by rfl) (by decide)) ?_ | refine VOps.vV (VLoad.boxA rfl rfl rfl (by rfl) (leR (by rfl)) (by decide)) ?_ | refine VOps.box rfl rfl (by kernel_rfl) rfl rfl rfl rfl ?_)) | refine VCode.seq ?_ | refine VCode.region rfl ?_))
 refine VOps.pure rfl Try.func65 rfl (by kernel_rfl) rfl rfl rfl rfl rfl rfl rfl (contP_v w x hw) ?_
 (repeat (first | ((with_reducible refine VOps.same ?_); (first | (refine VOps.nil ?_; try dsimp only [VThen, VBlock]) | refine VOps.vP (VPure.assign rfl rfl) ?_))))
 refine VCode.ret ?_
 (show Less cx _ _; refine Less.mkx (l := [0]) (st' := ⟨[(3, .val (.bool (isIn w x)))], [(0, wO w)], 1⟩) 1 hcx (Nat.le_of_ble_eq_true rfl) (by decide) ?ss ?hh rfl (by decide) rfl ⟨_, (.tmp rfl .nil), rfl, rfl, rfl⟩; (case ss => repeat (first | exact SubS.nil | refine SubS.cons rfl rfl ?_ | refine SubS.cons (ciI (by omega)) rfl ?_ | refine SubS.cons (ciB (by assumption)) rfl ?_)); (case hh => repeat (first | exact SubH.nil | refine SubH.cons rfl rfl rfl ?_)))
set_option maxHeartbeats 2000000 in
theorem idxW_v (w : List Spot) (l : List Spot) (hl : l.length ≤ 1000000) (hw : w.length ≤ 1000000) : VCalls Try.prog 66 [.ref 1, .fn 64 [.ptr 0 0]] [(0, wO w), (1, .arr 44 2 (l.map encP))] 2 (Leaves (.val (.int .i64 (firstAt (isIn w) l))) [(0, wO w), (1, .arr 44 2 (l.map encP))] 2) := by
 refine VCalls.enterL (n := 19) Try.func66 rfl rfl (by simp) (fun cx hcx => ?_)
 (repeat (first | ((with_reducible refine VOps.same ?_); (first | (refine VOps.nil ?_; try dsimp only [VThen, VBlock]) | refine VOps.vP (VPure.move rfl rfl) ?_ | refine VOps.vP (VPure.assign rfl rfl) ?_ | refine VOps.vP (VPure.len_arr TI.und' rfl rfl rfl) ?_)) | refine VCode.seq ?_ | refine VCode.region rfl ?_ | refine VCode.block ?_))
 refine VCode.says (d := 7) (v := .val (.int .i64 (l.length : Int))) rfl (by rw [List.length_map]) ?_
 refine VCode.loop (fun m st => ∃ k : Nat, k ≤ l.length ∧ m = l.length - k ∧ (∀ y ∈ l.take k, (isIn w) y = false) ∧ st = ⟨[(8, .val (.int .i64 (k : Int))), (7, .val (.int .i64 (l.length : Int))), (0, .ref 1), (1, .fn 64 [.ptr 0 0])], [(0, wO w), (1, .arr 44 2 (l.map encP))], 2⟩) l.length ?_ ?_
 ·(refine Less.mkx (l := [0, 1]) 2 hcx (by exact Nat.le_of_ble_eq_true rfl) (by decide) ?ss ?hh rfl (by decide) rfl ⟨0, by omega, by omega, by simp, rfl⟩; (case ss => repeat (first | exact SubS.nil | refine SubS.cons rfl rfl ?_ | refine SubS.cons (ciI (by omega)) rfl ?_ | refine SubS.cons (ciB (by assumption)) rfl ?_)); (case hh => repeat (first | exact SubH.nil | refine SubH.cons rfl rfl rfl ?_)))
 rintro m st ⟨k, hk, rfl, hb, rfl⟩
 cases ht : l[k]? with
 | some e =>
  have hlt : k < l.length := (List.getElem?_eq_some_iff.1 ht).1
  (repeat (first | ((with_reducible refine VOps.same ?_); (first | (refine VOps.nil ?_; try dsimp only [VThen, VBlock]) | refine VOps.vP (VPure.lss rfl rfl rfl) ?_)) | refine VCode.seq ?_ | refine VCode.region rfl ?_))
  refine VCode.cond_t rfl (decide_eq_true (by omega)) ?_
  (repeat (first | ((with_reducible refine VOps.same ?_); (first | (refine VOps.nil ?_; try dsimp only [VThen, VBlock]) | refine VOps.vP (VPure.move rfl rfl) ?_ | refine VOps.vP (VPure.assign rfl rfl) ?_ | refine VOps.vP (VPure.idx_arrm rfl rfl rfl rfl (by assumption)) ?_ | refine VOps.vV (VLoad.arrAm rfl rfl rfl (by rfl) (by assumption) rfl (leR (by rfl)) (by decide)) ?_)) | refine VCode.seq ?_ | refine VCode.region rfl ?_ | refine VCode.block ?_ | refine VCode.skip ?_))
  (refine VOps.callL (ch := [(0, wO w)]) [0] rfl Try.func64 rfl (by kernel_rfl) rfl rfl rfl rfl ?hh (by decide) rfl rfl rfl (rest1_v w e hw) rfl (by rfl) rfl ?_; (case hh => repeat (first | exact SubH.nil | refine SubH.cons rfl rfl rfl ?_)))
  (repeat (first | ((with_reducible refine VOps.same ?_); (first | (refine VOps.nil ?_; try dsimp only [VThen, VBlock])))))
  refine VCode.cond rfl (fun hp => ?_) (fun hp => ?_)
  ·(repeat (first | ((with_reducible refine VOps.same ?_); (first | (refine VOps.nil ?_; try dsimp only [VThen, VBlock]) | refine VOps.vP (VPure.move rfl rfl) ?_ | refine VOps.vP (VPure.assign rfl rfl) ?_)) | refine VCode.seq ?_ | refine VCode.region rfl ?_))
   refine VCode.ret ?_
   have hr : (k : Int) = firstAt (isIn w) l := (firstAt_some ht hp hb).symm
   (show Less cx _ _; refine Less.mkx (l := [0, 1]) (st' := ⟨[(4, .val (.int .i64 (firstAt (isIn w) l)))], [(0, wO w), (1, .arr 44 2 (l.map encP))], 2⟩) 2 hcx (Nat.le_of_ble_eq_true rfl) (by decide) ?ss ?hh rfl (by decide) rfl ⟨_, (.tmp rfl .nil), rfl, rfl, rfl⟩; (case ss => repeat (first | exact SubS.nil | refine SubS.cons rfl rfl ?_ | refine SubS.cons (ciI (by omega)) rfl ?_ | refine SubS.cons (ciB (by assumption)) rfl ?_)); (case hh => repeat (first | exact SubH.nil | refine SubH.cons rfl rfl rfl ?_)))
  ·(repeat (first | ((with_reducible refine VOps.same ?_); (first | (refine VOps.nil ?_; try dsimp only [VThen, VBlock]) | refine VOps.vP (VPure.move rfl rfl) ?_ | refine VOps.vP (VPure.addK rfl rfl rfl (by omega)) ?_)) | refine VCode.region rfl ?_ | refine VCode.skip ?_))
   (refine Less.mkx (l := [0, 1]) 2 hcx (by exact Nat.le_of_ble_eq_true rfl) (by decide) ?ss ?hh rfl (by decide) rfl ⟨_, ?_, k + 1, by omega, rfl, ?_, rfl⟩; (case ss => repeat (first | exact SubS.nil | refine SubS.cons rfl rfl ?_ | refine SubS.cons (ciI (by omega)) rfl ?_ | refine SubS.cons (ciB (by assumption)) rfl ?_)); (case hh => repeat (first | exact SubH.nil | refine SubH.cons rfl rfl rfl ?_)))
   ·omega
   ·exact take_no ht hb hp
 | none =>
  have hge : l.length ≤ k := List.getElem?_eq_none_iff.1 ht
  rw [List.take_of_length_le hge] at hb
  (repeat (first | ((with_reducible refine VOps.same ?_); (first | (refine VOps.nil ?_; try dsimp only [VThen, VBlock]) | refine VOps.vP (VPure.lss rfl rfl rfl) ?_)) | refine VCode.seq ?_ | refine VCode.region rfl ?_))
  refine VCode.cond_f rfl (decide_eq_false (by omega)) ?_
  (repeat (first | ((with_reducible refine VOps.same ?_); (first | (refine VOps.nil ?_; try dsimp only [VThen, VBlock]) | refine VOps.vP (VPure.assign rfl rfl) ?_)) | refine VCode.seq ?_ | refine VCode.region rfl ?_ | refine VCode.exit ?_))
  refine VCode.ret ?_
  have hr : -1 = firstAt (isIn w) l := (firstAt_none hb).symm
  (show Less cx _ _; refine Less.mkx (l := [0, 1]) (st' := ⟨[(4, .val (.int .i64 (firstAt (isIn w) l)))], [(0, wO w), (1, .arr 44 2 (l.map encP))], 2⟩) 2 hcx (Nat.le_of_ble_eq_true rfl) (by decide) ?ss ?hh rfl (by decide) rfl ⟨_, (.tmp rfl .nil), rfl, rfl, rfl⟩; (case ss => repeat (first | exact SubS.nil | refine SubS.cons rfl rfl ?_ | refine SubS.cons (ciI (by omega)) rfl ?_ | refine SubS.cons (ciB (by assumption)) rfl ?_)); (case hh => repeat (first | exact SubH.nil | refine SubH.cons rfl rfl rfl ?_)))
set_option maxHeartbeats 4000000 in
theorem delW_v (w : List Spot) (l : List Spot) (hl : l.length ≤ 1000000) (hw : w.length ≤ 1000000) : VCalls Try.prog 39 [.ref 1, .fn 64 [.ptr 0 0]] [(0, wO w), (1, .arr 44 2 (l.map encP))] 2 (Leaves (.ref 2) [(0, wO w), (2, .arr 44 2 ((l.filter fun x => !(isIn w) x).map encP))] 3) := by
 have hix := idxW_v w l hl hw
 refine VCalls.enterL (n := 42) Try.func39 rfl rfl (by simp) (fun cx hcx => ?_)
 (repeat (first | ((with_reducible refine VOps.same ?_); (first | (refine VOps.nil ?_; try dsimp only [VThen, VBlock]) | refine VOps.vP (VPure.move rfl rfl) ?_ | refine VOps.vP (VPure.assign rfl rfl) ?_)) | refine VCode.seq ?_ | refine VCode.region rfl ?_))
 rcases firstAt_cases (isIn w) l with ⟨he, hno⟩ | ⟨k, y, he, hk, hy, hno⟩
 ·rw [he] at hix
  (refine VOps.callL (ch := [(0, wO w), (1, .arr 44 2 (l.map encP))]) [0, 1] rfl Try.func66 rfl (by kernel_rfl) rfl rfl rfl rfl ?hh (by decide) rfl rfl rfl (hix) rfl (by rfl) rfl ?_; (case hh => repeat (first | exact SubH.nil | refine SubH.cons rfl rfl rfl ?_)))
  (repeat (first | ((with_reducible refine VOps.same ?_); (first | (refine VOps.nil ?_; try dsimp only [VThen, VBlock]) | refine VOps.vP (VPure.move rfl rfl) ?_ | refine VOps.vP (VPure.assign rfl rfl) ?_ | refine VOps.vP (VPure.eqi rfl rfl rfl) ?_)) | refine VCode.seq ?_ | refine VCode.region rfl ?_))
  refine VCode.cond_t rfl rfl ?_
  (repeat (first | ((with_reducible refine VOps.same ?_); (first | (refine VOps.nil ?_; try dsimp only [VThen, VBlock]) | refine VOps.vP (VPure.move rfl rfl) ?_ | refine VOps.vP (VPure.assign rfl rfl) ?_)) | refine VCode.seq ?_ | refine VCode.region rfl ?_))
  refine VCode.againA (id := 1) rfl ?_
  refine VCode.ret ?_
  have hf : (l.filter fun x => !(isIn w) x) = l := List.filter_eq_self.2 (fun x hx => by simpa using hno x hx)
  rw [hf]
  (show Less cx _ _; refine Less.mkx (l := [0, 1, 2]) (st' := ⟨[(4, .ref 2)], [(0, wO w), (2, .arr 44 2 (l.map encP))], 3⟩) 2 hcx (Nat.le_of_ble_eq_true rfl) (by decide) ?ss ?hh rfl (by decide) rfl ⟨_, (.tmp rfl .nil), rfl, rfl, rfl⟩; (case ss => repeat (first | exact SubS.nil | refine SubS.cons rfl rfl ?_ | refine SubS.cons (ciI (by omega)) rfl ?_ | refine SubS.cons (ciB (by assumption)) rfl ?_)); (case hh => repeat (first | exact SubH.nil | refine SubH.cons rfl rfl rfl ?_)))
 ·rw [he] at hix
  have hklt : k < l.length := (List.getElem?_eq_some_iff.1 hk).1
  (refine VOps.callL (ch := [(0, wO w), (1, .arr 44 2 (l.map encP))]) [0, 1] rfl Try.func66 rfl (by kernel_rfl) rfl rfl rfl rfl ?hh (by decide) rfl rfl rfl (hix) rfl (by rfl) rfl ?_; (case hh => repeat (first | exact SubH.nil | refine SubH.cons rfl rfl rfl ?_)))
  (repeat (first | ((with_reducible refine VOps.same ?_); (first | (refine VOps.nil ?_; try dsimp only [VThen, VBlock]) | refine VOps.vP (VPure.move rfl rfl) ?_ | refine VOps.vP (VPure.assign rfl rfl) ?_ | refine VOps.vP (VPure.eqi rfl rfl rfl) ?_)) | refine VCode.seq ?_ | refine VCode.region rfl ?_))
  refine VCode.cond_f rfl (decide_eq_false (by omega)) ?_
  (repeat (first | ((with_reducible refine VOps.same ?_); (first | (refine VOps.nil ?_; try dsimp only [VThen, VBlock]) | refine VOps.vP (VPure.move rfl rfl) ?_ | refine VOps.vP (VPure.assign rfl rfl) ?_ | refine VOps.vP (VPure.addK rfl rfl rfl (by omega)) ?_)) | refine VCode.seq ?_ | refine VCode.region rfl ?_ | refine VCode.block ?_ | refine VCode.skip ?_))
  refine VCode.loop (fun m st => ∃ (i j : Nat) (ys : List Spot), j ≤ l.length ∧ m = l.length - j ∧ Kept (isIn w) l ys i j ∧ st = ⟨[(5, .val (.int .i64 (i : Int))), (6, .val (.int .i64 (j : Int))), (0, .ref 1), (1, .fn 64 [.ptr 0 0])], [(0, wO w), (1, .arr 44 2 (ys.map encP))], 2⟩) (l.length - (k + 1)) ?_ ?_
  ·(refine Less.mkx (l := [0, 1]) 2 hcx (by exact Nat.le_of_ble_eq_true rfl) (by decide) ?ss ?hh rfl (by decide) rfl ⟨k, k + 1, l, by omega, by omega, Kept.start hk hy hno, rfl⟩; (case ss => repeat (first | exact SubS.nil | refine SubS.cons rfl rfl ?_ | refine SubS.cons (ciI (by omega)) rfl ?_ | refine SubS.cons (ciB (by assumption)) rfl ?_)); (case hh => repeat (first | exact SubH.nil | refine SubH.cons rfl rfl rfl ?_)))
  rintro m st ⟨i, j, ys, hj, rfl, hK, rfl⟩
  have hys := hK.len
  have hml : (ys.map encP).length = ys.length := List.length_map ..
  have hij := hK.lt
  cases ht : l[j]? with
  | some e =>
   have hlt : j < l.length := (List.getElem?_eq_some_iff.1 ht).1
   have hte : ys[j]? = some e := (hK.get (Nat.le_refl _)).trans ht
   obtain ⟨o, ho⟩ : ∃ o, ys[i]? = some o := ⟨_, List.getElem?_eq_getElem (by omega)⟩
   (repeat (first | ((with_reducible refine VOps.same ?_); (first | (refine VOps.nil ?_; try dsimp only [VThen, VBlock]) | refine VOps.vP (VPure.move rfl rfl) ?_ | refine VOps.vP (VPure.len_arr TI.und' rfl rfl rfl) ?_ | refine VOps.vP (VPure.lss rfl rfl rfl) ?_)) | refine VCode.seq ?_ | refine VCode.region rfl ?_))
   refine VCode.cond_t rfl (decide_eq_true (by omega)) ?_
   (repeat (first | ((with_reducible refine VOps.same ?_); (first | (refine VOps.nil ?_; try dsimp only [VThen, VBlock]) | refine VOps.vP (VPure.move rfl rfl) ?_ | refine VOps.vP (VPure.idx_arrm rfl rfl rfl rfl (by assumption)) ?_ | refine VOps.vV (VLoad.boxA rfl rfl rfl (by rfl) (leR (by rfl)) (by decide)) ?_ | refine VOps.vV (VLoad.arrAm rfl rfl rfl (by rfl) (by assumption) rfl (leR (by rfl)) (by decide)) ?_ | refine VOps.alloc rfl rfl (by kernel_rfl) rfl (by kernel_rfl) rfl ?_ | refine VOps.store rfl rfl (by kernel_rfl) rfl rfl rfl rfl rfl rfl (leR (by rfl)) rfl ?_)) | refine VCode.seq ?_ | refine VCode.region rfl ?_ | refine VCode.block ?_ | refine VCode.skip ?_))
   (refine VOps.callL (ch := [(0, wO w)]) [0] rfl Try.func64 rfl (by kernel_rfl) rfl rfl rfl rfl ?hh (by decide) rfl rfl rfl (rest1_v w e hw) rfl (by rfl) rfl ?_; (case hh => repeat (first | exact SubH.nil | refine SubH.cons rfl rfl rfl ?_)))
   (repeat (first | ((with_reducible refine VOps.same ?_); (first | (refine VOps.nil ?_; try dsimp only [VThen, VBlock]) | refine VOps.vP (VPure.not rfl rfl) ?_))))
   refine VCode.cond rfl (fun hp => ?_) (fun hp => ?_)
   ·(repeat (first | ((with_reducible refine VOps.same ?_); (first | refine VOps.vP (VPure.move rfl rfl) ?_ | refine VOps.vP (VPure.idx_arrm rfl rfl rfl rfl (by assumption)) ?_ | refine VOps.vV (VLoad.boxA rfl rfl rfl (by rfl) (leR (by rfl)) (by decide)) ?_)) | refine VCode.seq ?_ | refine VCode.region rfl ?_))
    refine VOps.store_arrm (u' := e ) (ys :=  ys.set i e) rfl rfl (by kernel_rfl) rfl rfl rfl rfl (by rfl) (by assumption) rfl rfl (by first | decide | exact Nat.le_of_ble_eq_true (by rfl)) (by rfl) (by rfl) ?_
    (repeat (first | ((with_reducible refine VOps.same ?_); (first | (refine VOps.nil ?_; try dsimp only [VThen, VBlock]) | refine VOps.vP (VPure.move rfl rfl) ?_ | refine VOps.vP (VPure.assign rfl rfl) ?_ | refine VOps.vP (VPure.addK rfl rfl rfl (by omega)) ?_)) | refine VCode.region rfl ?_))
    (refine Less.mkx (l := [0, 1]) 2 hcx (by exact Nat.le_of_ble_eq_true rfl) (by decide) ?ss ?hh rfl (by decide) rfl ⟨_, ?_, i + 1, j + 1, ys.set i e, by omega, rfl, hK.keep ht (by simpa using hp), rfl⟩; (case ss => repeat (first | exact SubS.nil | refine SubS.cons rfl rfl ?_ | refine SubS.cons (ciI (by omega)) rfl ?_ | refine SubS.cons (ciB (by assumption)) rfl ?_)); (case hh => repeat (first | exact SubH.nil | refine SubH.cons rfl rfl rfl ?_)))
    omega
   ·(repeat (first | ((with_reducible refine VOps.same ?_); (first | (refine VOps.nil ?_; try dsimp only [VThen, VBlock]) | refine VOps.vP (VPure.move rfl rfl) ?_ | refine VOps.vP (VPure.assign rfl rfl) ?_ | refine VOps.vP (VPure.addK rfl rfl rfl (by omega)) ?_)) | refine VCode.region rfl ?_ | refine VCode.skip ?_))
    (refine Less.mkx (l := [0, 1]) 2 hcx (by exact Nat.le_of_ble_eq_true rfl) (by decide) ?ss ?hh rfl (by decide) rfl ⟨_, ?_, i, j + 1, ys, by omega, rfl, hK.drop ht (by simpa using hp), rfl⟩; (case ss => repeat (first | exact SubS.nil | refine SubS.cons rfl rfl ?_ | refine SubS.cons (ciI (by omega)) rfl ?_ | refine SubS.cons (ciB (by assumption)) rfl ?_)); (case hh => repeat (first | exact SubH.nil | refine SubH.cons rfl rfl rfl ?_)))
    omega
  | none =>
   have hge : l.length ≤ j := List.getElem?_eq_none_iff.1 ht
   obtain rfl : j = l.length := by omega
   (repeat (first | ((with_reducible refine VOps.same ?_); (first | (refine VOps.nil ?_; try dsimp only [VThen, VBlock]) | refine VOps.vP (VPure.move rfl rfl) ?_ | refine VOps.vP (VPure.len_arr TI.und' rfl rfl rfl) ?_ | refine VOps.vP (VPure.lss rfl rfl rfl) ?_)) | refine VCode.seq ?_ | refine VCode.region rfl ?_))
   refine VCode.cond_f rfl (decide_eq_false (by omega)) ?_
   (repeat (first | ((with_reducible refine VOps.same ?_); (first | refine VOps.vP (VPure.move rfl rfl) ?_)) | refine VCode.seq ?_ | refine VCode.region rfl ?_ | refine VCode.exit ?_))
   refine VOps.clear (zs := (ys.take i ++ List.replicate (ys.length - i) ((0, 0) : Spot)).map encP) rfl rfl rfl rfl rfl rfl rfl rfl rfl (by kernel_rfl) (by rfl) (by decide) (by rw [List.length_map]; omega) (by rw [List.map_append, List.map_take, List.map_replicate, List.length_map]; rfl) ?_
   (repeat (first | ((with_reducible refine VOps.same ?_); (first | (refine VOps.nil ?_; try dsimp only [VThen, VBlock]) | refine VOps.vP (VPure.move rfl rfl) ?_)) | refine VCode.seq ?_ | refine VCode.region rfl ?_))
   refine VOps.cut_own (zs := (l.filter fun x => !(isIn w) x).map encP) rfl (by kernel_rfl) rfl rfl rfl rfl rfl (by simp; omega) (by rw [← List.map_take, List.take_append_of_le_length (by rw [List.length_take]; omega), List.take_take, Nat.min_self, hK.done]) ?_
   (repeat (first | ((with_reducible refine VOps.same ?_); (first | (refine VOps.nil ?_; try dsimp only [VThen, VBlock]) | refine VOps.vP (VPure.assign rfl rfl) ?_))))
   refine VCode.ret ?_
   (show Less cx _ _; refine Less.mkx (l := [0, 1, 2]) (st' := ⟨[(4, .ref 2)], [(0, wO w), (2, .arr 44 2 ((l.filter fun x => !(isIn w) x).map encP))], 3⟩) 2 hcx (Nat.le_of_ble_eq_true rfl) (by decide) ?ss ?hh rfl (by decide) rfl ⟨_, (.tmp rfl .nil), rfl, rfl, rfl⟩; (case ss => repeat (first | exact SubS.nil | refine SubS.cons rfl rfl ?_ | refine SubS.cons (ciI (by omega)) rfl ?_ | refine SubS.cons (ciB (by assumption)) rfl ?_)); (case hh => repeat (first | exact SubH.nil | refine SubH.cons rfl rfl rfl ?_)))
set_option maxHeartbeats 2000000 in
theorem rest_o (g : Gr) (w : List Spot) (hg : Sized g) (hw : w.length ≤ 1000000) : VCalls Try.prog 36 [gV g, sV w] [] 0 (Leaves (.ref 0) [(0, .arr 44 2 ((restS g w).map encP))] 1) := by
 have hl := spots_len g
 refine VCalls.enterL (n := 9) Try.func36 rfl rfl (by simp) (fun cx hcx => ?_)
 (repeat (first | ((with_reducible refine VOps.same ?_); (first | (refine VOps.nil ?_; try dsimp only [VThen, VBlock]) | refine VOps.vP (VPure.assign rfl rfl) ?_ | refine VOps.vV (VLoad.boxA rfl rfl rfl (by rfl) (leR (by rfl)) (by decide)) ?_ | refine VOps.box rfl rfl (by kernel_rfl) rfl rfl rfl rfl ?_)) | refine VCode.seq ?_ | refine VCode.region rfl ?_))
 (refine VOps.callL (ch := []) [] rfl Try.func18 rfl (by kernel_rfl) rfl rfl rfl rfl ?hh (by decide) rfl rfl rfl (spots_o g hg) rfl (by rfl) rfl ?_; (case hh => repeat (first | exact SubH.nil | refine SubH.cons rfl rfl rfl ?_)))
 (repeat (first | ((with_reducible refine VOps.same ?_); (first | refine VOps.vP (VPure.fnE rfl rfl) ?_))))
 (refine VOps.callL (ch := [(0, wO w), (1, .arr 44 2 ((spots g).map encP))]) [1, 2] rfl Try.func39 rfl (by kernel_rfl) rfl rfl rfl rfl ?hh (by decide) rfl rfl rfl (delW_v w (spots g) (by omega) hw) rfl (by rfl) rfl ?_; (case hh => repeat (first | exact SubH.nil | refine SubH.cons rfl rfl rfl ?_)))
 (repeat (first | ((with_reducible refine VOps.same ?_); (first | (refine VOps.nil ?_; try dsimp only [VThen, VBlock]) | refine VOps.vP (VPure.assign rfl rfl) ?_))))
 refine VCode.ret ?_
 (show Less cx _ _; refine Less.mkx (l := [3]) (st' := ⟨[(4, .ref 0)], [(0, .arr 44 2 ((restS g w).map encP))], 1⟩) 0 hcx (Nat.le_of_ble_eq_true rfl) (by decide) ?ss ?hh rfl (by decide) rfl ⟨_, (.tmp rfl .nil), rfl, rfl, rfl⟩; (case ss => repeat (first | exact SubS.nil | refine SubS.cons rfl rfl ?_ | refine SubS.cons (ciI (by omega)) rfl ?_ | refine SubS.cons (ciB (by assumption)) rfl ?_)); (case hh => repeat (first | exact SubH.nil | refine SubH.cons rfl rfl rfl ?_)))
end Go.Proofs.Ytfjfbapiheehaaa.V
end
section
set_option linter.unusedVariables false
set_option linter.unusedSimpArgs false
namespace Go.Proofs.Ytfjfbapiheehaaa.V
open Go Go.RowKit Go.Proofs.Ytfjfbapiheehaaa.DG
def encB (b : Bool) : List D := [.val (.bool b)]
def encN (k : Nat) : List D := [.val (.int .i64 (k : Int))]
def encRow (r : List Bool) : List D := [.sl 1 (r.map encB)]
theorem take_map_edge {g : Gr} {l : List Spot} {j : Nat} {y : Spot} (h : l[j]? = some y) (s : List Nat × List Bool) (x : Nat) : ((l.take (j + 1)).map (edge g)).foldl (visit x) s = visit x (((l.take j).map (edge g)).foldl (visit x) s) (edge g y) := by
 rw [List.take_add_one, h, List.map_append, List.foldl_append]; rfl
set_option maxHeartbeats 4000000 in
theorem from_v {g : Gr} (hg : Sized g) {l : List Spot} (hl : ∀ y ∈ l, y ∈ spots g) (hll : l.length ≤ 1000) {a : Nat} (ha : a < g.names.length) {r : List Bool} (hr : bfs (l.map (edge g)) (g.names.length + 2) [a] (List.replicate g.names.length false) = some r) : VCalls Try.prog 37 [gV g, sV l, .val (.int .i64 (a : Int))] [] 0 (Gives (.sl 1 (r.map encB))) := by
 have ht := hg.terms
 have hn := hg.names
 refine VCalls.enterD (n := 58) Try.func37 rfl rfl (by simp) rfl (fun cx hcx => ?_)
 (repeat (first | ((with_reducible refine VOps.same ?_); (first | (refine VOps.nil ?_; try dsimp only [VThen, VBlock]) | refine VOps.vP (VPure.assign rfl rfl) ?_ | refine VOps.vP (VPure.len_map TI.und' rfl rfl) ?_ | refine VOps.vP (VPure.field_ptr rfl rfl rfl) ?_ | refine VOps.vV (VLoad.box1 rfl rfl rfl rfl (by rfl) (by decide)) ?_ | refine VOps.box rfl rfl (by kernel_rfl) rfl rfl rfl rfl ?_)) | refine VCode.seq ?_ | refine VCode.region rfl ?_))
 (refine VOps.make (f := encB) (a := false) rfl rfl (by kernel_rfl) rfl (by kernel_rfl) (by rfl) (by decide) rfl rfl ?b1 ?b2 (by rfl) ?_; (case b1 => unfold most; (first | omega | (simp only [List.length_map, List.length_append, List.length_cons, List.length_nil] at *; omega) | (simp; omega))); (case b2 => unfold most; (first | omega | (simp only [List.length_map, List.length_append, List.length_cons, List.length_nil] at *; omega) | (simp; omega))))
 (repeat (first | ((with_reducible refine VOps.same ?_); (first | (refine VOps.nil ?_; try dsimp only [VThen, VBlock]) | refine VOps.vP (VPure.move rfl rfl) ?_ | refine VOps.vP (VPure.assign rfl rfl) ?_ | refine VOps.vP (VPure.len_arr TI.und' rfl rfl rfl) ?_ | refine VOps.vP (VPure.add rfl rfl rfl) ?_)) | refine VCode.seq ?_ | refine VCode.region rfl ?_))
 refine VOps.says (d := 20) (v := .val (.int .i64 ((g.names.length + 1 : Nat) : Int))) rfl (by simp; exact wrap_in (by omega)) ?_
 (repeat (first | ((with_reducible refine VOps.same ?_); (first | (refine VOps.nil ?_; try dsimp only [VThen, VBlock]) | refine VOps.vP (VPure.move rfl rfl) ?_ | refine VOps.vP (VPure.assign rfl rfl) ?_ | (refine VOps.makeChan rfl rfl (by kernel_rfl) rfl rfl ?b1 ?b2 ?_; (case b1 => unfold most; (first | omega | (simp only [List.length_map, List.length_append, List.length_cons, List.length_nil] at *; omega) | (simp; omega))); (case b2 => unfold most; (first | omega | (simp only [List.length_map, List.length_append, List.length_cons, List.length_nil] at *; omega) | (simp; omega)))))) | refine VCode.seq ?_ | refine VCode.region rfl ?_))
 (refine VOps.sendP (buf' := [a].map encN) rfl rfl rfl rfl rfl rfl (by rfl) ?b1 ( by rfl) ?_; (case b1 => (first | omega | (simp only [List.length_map, List.length_append, List.length_cons, List.length_nil] at *; omega) | (simp; omega))))
 (repeat (first | ((with_reducible refine VOps.same ?_); (first | (refine VOps.nil ?_; try dsimp only [VThen, VBlock]))) | refine VCode.block ?_))
 refine VCode.loop (fun m st => ∃ (q : List Nat) (bs : List Bool), bfs (l.map (edge g)) m q bs = some r ∧ q.length + falses bs ≤ g.names.length + 1 ∧ bs.length = g.names.length ∧ st = ⟨[(7, .ref 1), (8, .ref 2), (1, sV l), (3, .ptr 0 0)], [(0, gO g), (1, .arr 4 1 (bs.map encB)), (2, .chan (g.names.length + 1) (q.map encN) false)], 3⟩) (g.names.length + 2) ?_ ?_
 ·(refine Less.mk (l := [0, 1, 2]) hcx ?ss ?hh rfl (by decide) rfl ⟨[a], List.replicate g.names.length false, hr, by simp [falses_rep]; omega, by simp, rfl⟩; (case ss => repeat (first | exact SubS.nil | refine SubS.cons rfl rfl ?_ | refine SubS.cons (ciI (by omega)) rfl ?_ | refine SubS.cons (ciB (by assumption)) rfl ?_)); (case hh => repeat (first | exact SubH.nil | refine SubH.cons rfl rfl rfl ?_)))
 rintro m st ⟨q, bs, hr, hfit, hlen, rfl⟩
 cases m with
 | zero => cases hr
 | succ m =>
 cases q with
 | nil =>
  obtain rfl : bs = r := Option.some.inj hr
  (repeat (first | ((with_reducible refine VOps.same ?_); (first | (refine VOps.nil ?_; try dsimp only [VThen, VBlock]) | refine VOps.vP (VPure.move rfl rfl) ?_ | refine VOps.vP (VPure.extract rfl rfl rfl) ?_ | refine VOps.vP (VPure.eqi rfl rfl rfl) ?_ | refine VOps.sel_none rfl rfl rfl rfl rfl ?_)) | refine VCode.seq ?_ | refine VCode.region rfl ?_ | refine VCode.block ?_))
  refine VCode.cond_f rfl rfl ?_
  (repeat (first | ((with_reducible refine VOps.same ?_); (first | (refine VOps.nil ?_; try dsimp only [VThen, VBlock]) | refine VOps.vP (VPure.move rfl rfl) ?_ | refine VOps.vP (VPure.assign rfl rfl) ?_)) | refine VCode.seq ?_ | refine VCode.region rfl ?_))
  refine VCode.freeze (id := 1) rfl ?_
  refine VCode.retD rfl rfl (.tmp rfl .nil) ?_
  rfl
 | cons x q =>
  have hr : bfs (l.map (edge g)) m ((l.map (edge g)).foldl (visit x) (q, bs)).1 ((l.map (edge g)).foldl (visit x) (q, bs)).2 = some r := hr
  simp only [List.length_cons] at hfit
  (repeat (first | ((with_reducible refine VOps.same ?_); (first | (refine VOps.nil ?_; try dsimp only [VThen, VBlock]) | refine VOps.vP (VPure.move rfl rfl) ?_ | refine VOps.vP (VPure.extract rfl rfl rfl) ?_ | refine VOps.vP (VPure.eqi rfl rfl rfl) ?_ | refine VOps.sel_some rfl rfl rfl rfl rfl ?_)) | refine VCode.seq ?_ | refine VCode.region rfl ?_ | refine VCode.block ?_))
  refine VCode.cond_t rfl rfl ?_
  (repeat (first | ((with_reducible refine VOps.same ?_); (first | (refine VOps.nil ?_; try dsimp only [VThen, VBlock]) | refine VOps.vP (VPure.move rfl rfl) ?_ | refine VOps.vP (VPure.assign rfl rfl) ?_ | refine VOps.vP (VPure.extract rfl rfl rfl) ?_ | refine VOps.vP (VPure.len_map TI.und' rfl rfl) ?_)) | refine VCode.seq ?_ | refine VCode.region rfl ?_ | refine VCode.block ?_))
  refine VCode.loop (fun m' st => ∃ (j : Nat) (q' : List Nat) (bs' : List Bool), j ≤ l.length ∧ m' = l.length - j ∧ (q', bs') = ((l.take j).map (edge g)).foldl (visit x) (q, bs) ∧ st = ⟨[(32, .val (.int .i64 (j : Int))), (31, .val (.int .i64 (l.length : Int))), (30, sV l), (9, .val (.int .i64 (x : Int))), (7, .ref 1), (8, .ref 2), (1, sV l), (3, .ptr 0 0)], [(0, gO g), (1, .arr 4 1 (bs'.map encB)), (2, .chan (g.names.length + 1) (q'.map encN) false)], 3⟩) l.length ?_ ?_
  ·(refine Less.mk (l := [0, 1, 2]) hcx ?ss ?hh rfl (by decide) rfl ⟨0, q, bs, by omega, by omega, rfl, rfl⟩; (case ss => repeat (first | exact SubS.nil | refine SubS.cons rfl rfl ?_ | refine SubS.cons (ciI (by omega)) rfl ?_ | refine SubS.cons (ciB (by assumption)) rfl ?_)); (case hh => repeat (first | exact SubH.nil | refine SubH.cons rfl rfl rfl ?_)))
  rintro m' st ⟨j, q', bs', hj, rfl, hqb, rfl⟩
  have hv := visits_len x ((l.take j).map (edge g)) (q, bs)
  rw [← hqb] at hv
  simp only at hv
  cases hy : l[j]? with
  | some y =>
   have hlt : j < l.length := (List.getElem?_eq_some_iff.1 hy).1
   obtain ⟨_, i1, j1, r1, s1, a1, b1, hat⟩ := spot_at (hl y (List.mem_of_getElem? hy))
   have hst := take_map_edge (g := g) hy (q, bs) x
   rw [← hqb, hat.he] at hst
   have hb1 : b1 < bs'.length := by rw [hv.2, hlen]; exact hat.hb
   obtain ⟨v, hvb⟩ : ∃ v, bs'[b1]? = some v := ⟨_, List.getElem?_eq_getElem hb1⟩
   have hgv : bs'.getD b1 true = v := by rw [List.getD_eq_getElem?_getD, hvb]; rfl
   (repeat (first | ((with_reducible refine VOps.same ?_); (first | (refine VOps.nil ?_; try dsimp only [VThen, VBlock]) | refine VOps.vP (VPure.lss rfl rfl rfl) ?_)) | refine VCode.seq ?_ | refine VCode.region rfl ?_))
   refine VCode.cond_t rfl (decide_eq_true (by omega)) ?_
   (repeat (first | ((with_reducible refine VOps.same ?_); (first | (refine VOps.nil ?_; try dsimp only [VThen, VBlock]) | refine VOps.vP (VPure.idx_map rfl rfl rfl (by assumption)) ?_ | refine VOps.vV (VLoad.elA rfl rfl (by rfl) (leR (by rfl))) ?_ | refine VOps.vV (VLoad.boxA rfl rfl rfl (by rfl) (leR (by rfl)) (by decide)) ?_ | refine VOps.alloc rfl rfl (by kernel_rfl) rfl (by kernel_rfl) rfl ?_ | refine VOps.store rfl rfl (by kernel_rfl) rfl rfl rfl rfl rfl rfl (leR (by rfl)) rfl ?_)) | refine VCode.seq ?_ | refine VCode.region rfl ?_ | refine VCode.block ?_ | refine VCode.skip ?_))
   refine VOps.pure rfl Try.func41 rfl (by kernel_rfl) rfl rfl rfl rfl rfl rfl rfl (ends_v hg hat) ?_
   (repeat (first | ((with_reducible refine VOps.same ?_); (first | (refine VOps.nil ?_; try dsimp only [VThen, VBlock]) | refine VOps.vP (VPure.move rfl rfl) ?_ | refine VOps.vP (VPure.assign rfl rfl) ?_ | refine VOps.vP (VPure.extract rfl rfl rfl) ?_ | refine VOps.vP (VPure.eqi rfl rfl rfl) ?_)) | refine VCode.seq ?_ | refine VCode.region rfl ?_))
   refine VOps.bool (d := 45) rfl (fun c1 => ?_) (fun c1 => ?_)
   ·have c1 : a1 = x := by have := of_decide_eq_true c1; omega
    (repeat (first | ((with_reducible refine VOps.same ?_); (first | (refine VOps.nil ?_; try dsimp only [VThen, VBlock]) | refine VOps.vP (VPure.move rfl rfl) ?_ | refine VOps.vP (VPure.idx_arrm rfl rfl rfl rfl (by assumption)) ?_ | refine VOps.vV (VLoad.arr1m rfl rfl rfl (by rfl) (by assumption) (by rfl) rfl (by decide)) ?_ | refine VOps.vP (VPure.not rfl rfl) ?_ | refine VOps.vP (VPure.pick_t rfl rfl rfl) ?_))))
    refine VCode.cond rfl (fun c2 => ?_) (fun c2 => ?_)
    ·have c2 : v = false := by simpa using c2
     subst c2
     have hvis : visit x (q', bs') (a1, b1) = (q' ++ [b1], bs'.set b1 true) := by unfold visit; rw [if_pos ⟨c1, hgv⟩]
     have hroom := falses_set bs' b1 hgv
     rw [hvis] at hst
     (repeat (first | ((with_reducible refine VOps.same ?_); (first | refine VOps.vP (VPure.move rfl rfl) ?_ | refine VOps.vP (VPure.idx_arrm rfl rfl rfl rfl (by assumption)) ?_)) | refine VCode.seq ?_ | refine VCode.region rfl ?_))
     refine VOps.store_arrm (u' := true ) (ys :=  bs'.set b1 true) rfl rfl (by kernel_rfl) rfl rfl rfl rfl (by rfl) (by assumption) rfl rfl (by first | decide | exact Nat.le_of_ble_eq_true (by rfl)) (by rfl) (by rfl) ?_
     (repeat (first | ((with_reducible refine VOps.same ?_); (first | (refine VOps.nil ?_; try dsimp only [VThen, VBlock]) | refine VOps.vP (VPure.move rfl rfl) ?_)) | refine VCode.region rfl ?_))
     (refine VOps.sendP (buf' := (q' ++ [b1]).map encN) rfl rfl rfl rfl rfl rfl (by rfl) ?b1 ( by rw [List.map_append]; rfl) ?_; (case b1 => (first | omega | (simp only [List.length_map, List.length_append, List.length_cons, List.length_nil] at *; omega) | (simp; omega))))
     (repeat (first | ((with_reducible refine VOps.same ?_); (first | (refine VOps.nil ?_; try dsimp only [VThen, VBlock]) | refine VOps.vP (VPure.move rfl rfl) ?_ | refine VOps.vP (VPure.addK rfl rfl rfl (by omega)) ?_)) | refine VCode.region rfl ?_))
     (refine Less.mk (l := [0, 1, 2]) hcx ?ss ?hh rfl (by decide) rfl ⟨_, ?_, j + 1, q' ++ [b1], bs'.set b1 true, by omega, rfl, hst.symm, rfl⟩; (case ss => repeat (first | exact SubS.nil | refine SubS.cons rfl rfl ?_ | refine SubS.cons (ciI (by omega)) rfl ?_ | refine SubS.cons (ciB (by assumption)) rfl ?_)); (case hh => repeat (first | exact SubH.nil | refine SubH.cons rfl rfl rfl ?_)))
     omega
    ·have c2 : v = true := by simpa using c2
     have hvis : visit x (q', bs') (a1, b1) = (q', bs') := by unfold visit; rw [if_neg (fun h => by rw [hgv, c2] at h; cases h.2)]
     rw [hvis] at hst
     (repeat (first | ((with_reducible refine VOps.same ?_); (first | (refine VOps.nil ?_; try dsimp only [VThen, VBlock]) | refine VOps.vP (VPure.move rfl rfl) ?_ | refine VOps.vP (VPure.addK rfl rfl rfl (by omega)) ?_)) | refine VCode.region rfl ?_ | refine VCode.skip ?_))
     (refine Less.mk (l := [0, 1, 2]) hcx ?ss ?hh rfl (by decide) rfl ⟨_, ?_, j + 1, q', bs', by omega, rfl, hst.symm, rfl⟩; (case ss => repeat (first | exact SubS.nil | refine SubS.cons rfl rfl ?_ | refine SubS.cons (ciI (by omega)) rfl ?_ | refine SubS.cons (ciB (by assumption)) rfl ?_)); (case hh => repeat (first | exact SubH.nil | refine SubH.cons rfl rfl rfl ?_)))
     omega
   ·have c1 : ¬ a1 = x := by have := of_decide_eq_false c1; omega
    have hvis : visit x (q', bs') (a1, b1) = (q', bs') := by unfold visit; rw [if_neg (fun h => c1 h.1)]
    rw [hvis] at hst
    (repeat (first | ((with_reducible refine VOps.same ?_); (first | (refine VOps.nil ?_; try dsimp only [VThen, VBlock]) | refine VOps.vP (VPure.pick_f rfl rfl rfl) ?_ | refine VOps.passv rfl (by kernel_rfl) rfl ?_))))
    refine VCode.cond_f rfl rfl ?_
    (repeat (first | ((with_reducible refine VOps.same ?_); (first | (refine VOps.nil ?_; try dsimp only [VThen, VBlock]) | refine VOps.vP (VPure.move rfl rfl) ?_ | refine VOps.vP (VPure.addK rfl rfl rfl (by omega)) ?_)) | refine VCode.region rfl ?_ | refine VCode.skip ?_))
    (refine Less.mk (l := [0, 1, 2]) hcx ?ss ?hh rfl (by decide) rfl ⟨_, ?_, j + 1, q', bs', by omega, rfl, hst.symm, rfl⟩; (case ss => repeat (first | exact SubS.nil | refine SubS.cons rfl rfl ?_ | refine SubS.cons (ciI (by omega)) rfl ?_ | refine SubS.cons (ciB (by assumption)) rfl ?_)); (case hh => repeat (first | exact SubH.nil | refine SubH.cons rfl rfl rfl ?_)))
    omega
  | none =>
   have hge : l.length ≤ j := List.getElem?_eq_none_iff.1 hy
   rw [List.take_of_length_le hge] at hqb
   rw [← hqb] at hr
   (repeat (first | ((with_reducible refine VOps.same ?_); (first | (refine VOps.nil ?_; try dsimp only [VThen, VBlock]) | refine VOps.vP (VPure.lss rfl rfl rfl) ?_)) | refine VCode.seq ?_ | refine VCode.region rfl ?_))
   refine VCode.cond_f rfl (decide_eq_false (by omega)) ?_
   (repeat (first | refine VCode.exit ?_))
   (refine Less.mk (l := [0, 1, 2]) hcx ?ss ?hh rfl (by decide) rfl ⟨m, Nat.lt_succ_self m, q', bs', hr, by omega, by omega, rfl⟩; (case ss => repeat (first | exact SubS.nil | refine SubS.cons rfl rfl ?_ | refine SubS.cons (ciI (by omega)) rfl ?_ | refine SubS.cons (ciB (by assumption)) rfl ?_)); (case hh => repeat (first | exact SubH.nil | refine SubH.cons rfl rfl rfl ?_)))
set_option maxHeartbeats 4000000 in
theorem on_v (g : Gr) (w : List Spot) (hg : Sized g) (hw : w.length ≤ 1000000) : VCalls Try.prog 14 [gV g, sV w] [] 0 (Gives (.sl 1 ((onOf g w).map encRow))) := by
 have ht := hg.terms
 have hn := hg.names
 refine VCalls.enterD (n := 29) Try.func14 rfl rfl (by simp) rfl (fun cx hcx => ?_)
 (repeat (first | ((with_reducible refine VOps.same ?_); (first | (refine VOps.nil ?_; try dsimp only [VThen, VBlock]) | refine VOps.vP (VPure.assign rfl rfl) ?_ | refine VOps.vV (VLoad.boxA rfl rfl rfl (by rfl) (leR (by rfl)) (by decide)) ?_ | refine VOps.box rfl rfl (by kernel_rfl) rfl rfl rfl rfl ?_)) | refine VCode.seq ?_ | refine VCode.region rfl ?_))
 refine VOps.pure rfl Try.func35 rfl (by kernel_rfl) rfl rfl rfl rfl rfl rfl rfl (good_v g hg) ?_
 (repeat (first | ((with_reducible refine VOps.same ?_); (first | (refine VOps.nil ?_; try dsimp only [VThen, VBlock]) | refine VOps.vP (VPure.not rfl rfl) ?_))))
 refine VCode.cond rfl (fun h1 => ?_) (fun h1 => ?_)
 ·(repeat (first | ((with_reducible refine VOps.same ?_); (first | (refine VOps.nil ?_; try dsimp only [VThen, VBlock]) | refine VOps.vP (VPure.assign rfl rfl) ?_)) | refine VCode.seq ?_ | refine VCode.region rfl ?_))
  refine VCode.nilS 4 1 rfl ?_
  refine VCode.retD rfl rfl (.tmp rfl .nil) ?_
  have : onOf g w = [] := by unfold onOf; rw [if_neg (by simpa using h1)]
  rw [this]; rfl
 have hG : GoodG g := by simpa using h1
 have hrl := restS_len g w
 have hrm : ∀ y ∈ restS g w, y ∈ spots g := fun y hy => (mem_restS.1 hy).1
 (repeat (first | ((with_reducible refine VOps.same ?_); (first | refine VOps.vP (VPure.move rfl rfl) ?_ | refine VOps.vV (VLoad.boxA rfl rfl rfl (by rfl) (leR (by rfl)) (by decide)) ?_)) | refine VCode.seq ?_ | refine VCode.region rfl ?_ | refine VCode.skip ?_))
 (refine VOps.callL (ch := []) [] rfl Try.func36 rfl (by kernel_rfl) rfl rfl rfl rfl ?hh (by decide) rfl rfl rfl (rest_o g w hg hw) rfl (by rfl) rfl ?_; (case hh => repeat (first | exact SubH.nil | refine SubH.cons rfl rfl rfl ?_)))
 (repeat (first | ((with_reducible refine VOps.same ?_); (first | (refine VOps.nil ?_; try dsimp only [VThen, VBlock]) | refine VOps.vP (VPure.move rfl rfl) ?_ | refine VOps.vP (VPure.assign rfl rfl) ?_ | refine VOps.vP (VPure.len_map TI.und' rfl rfl) ?_ | refine VOps.vP (VPure.field_ptr rfl rfl rfl) ?_ | refine VOps.vV (VLoad.box1 rfl rfl rfl rfl (by rfl) (by decide)) ?_)) | refine VCode.seq ?_ | refine VCode.region rfl ?_ | refine VCode.block ?_))
 refine VCode.freeze (id := 1) rfl ?_
 refine VCode.nilObj 6 33 1 rfl ?_
 skip
 refine VCode.loop (fun m st => ∃ (k : Nat) (out : List (List Bool)), k ≤ g.names.length ∧ m = g.names.length - k ∧ out = (onOf g w).take k ∧ st = ⟨[(17, .val (.int .i64 (k : Int))), (16, .val (.int .i64 (g.names.length : Int))), (6, .ref 1), (5, sV (restS g w)), (2, .ptr 0 0)], [(0, gO g), (1, .arr 33 1 (out.map encRow))], 2⟩) g.names.length ?_ ?_
 ·(refine Less.mk (l := [0, 2]) hcx ?ss ?hh rfl (by decide) rfl ⟨0, [], by omega, by omega, rfl, rfl⟩; (case ss => repeat (first | exact SubS.nil | refine SubS.cons rfl rfl ?_ | refine SubS.cons (ciI (by omega)) rfl ?_ | refine SubS.cons (ciB (by assumption)) rfl ?_)); (case hh => repeat (first | exact SubH.nil | refine SubH.cons rfl rfl rfl ?_)))
 rintro m st ⟨k, out, hk, rfl, hout, rfl⟩
 by_cases hlt : k < g.names.length
 ·have hrow := onOf_get hG w hlt
  have htl : out.length ≤ 4000 := by rw [hout, List.length_take]; omega
  (repeat (first | ((with_reducible refine VOps.same ?_); (first | (refine VOps.nil ?_; try dsimp only [VThen, VBlock]) | refine VOps.vP (VPure.lss rfl rfl rfl) ?_)) | refine VCode.seq ?_ | refine VCode.region rfl ?_))
  refine VCode.cond_t rfl (decide_eq_true (by omega)) ?_
  (repeat (first | ((with_reducible refine VOps.same ?_); (first | (refine VOps.nil ?_; try dsimp only [VThen, VBlock]) | refine VOps.vP (VPure.move rfl rfl) ?_ | refine VOps.vP (VPure.assign rfl rfl) ?_ | refine VOps.vV (VLoad.boxA rfl rfl rfl (by rfl) (leR (by rfl)) (by decide)) ?_)) | refine VCode.seq ?_ | refine VCode.region rfl ?_ | refine VCode.block ?_ | refine VCode.skip ?_))
  refine VOps.gives rfl Try.func37 rfl (by kernel_rfl) rfl rfl rfl rfl rfl rfl rfl rfl (from_v hg hrm (by omega) hlt (row_bfs g w k)) ?_
  (repeat (first | ((with_reducible refine VOps.same ?_); (first | refine VOps.one rfl rfl (by kernel_rfl) rfl (by rfl) (by decide) (by decide) rfl (by rfl) (by rfl) ?_))))
  refine VOps.append (zs := (out ++ [rowOf g w k]).map encRow) rfl rfl (by kernel_rfl) rfl (by rfl) (by decide) rfl (.arr rfl) rfl (.arr rfl) (by simp only [List.length_append, List.length_cons, List.length_nil, List.length_map]; unfold most; omega) (by simp only [List.length_append, List.length_cons, List.length_nil, List.length_map]; unfold most; omega) rfl ( by rw [List.map_append]; rfl) ?_
  (repeat (first | ((with_reducible refine VOps.same ?_); (first | (refine VOps.nil ?_; try dsimp only [VThen, VBlock]) | refine VOps.vP (VPure.move rfl rfl) ?_ | refine VOps.vP (VPure.assign rfl rfl) ?_ | refine VOps.vP (VPure.addK rfl rfl rfl (by omega)) ?_)) | refine VCode.region rfl ?_))
  (refine Less.mk (l := [0, 3]) hcx ?ss ?hh rfl (by decide) rfl ⟨_, ?_, k + 1, out ++ [rowOf g w k], by omega, rfl, by rw [List.take_add_one, hrow, hout]; rfl, rfl⟩; (case ss => repeat (first | exact SubS.nil | refine SubS.cons rfl rfl ?_ | refine SubS.cons (ciI (by omega)) rfl ?_ | refine SubS.cons (ciB (by assumption)) rfl ?_)); (case hh => repeat (first | exact SubH.nil | refine SubH.cons rfl rfl rfl ?_)))
  omega
 ·(repeat (first | ((with_reducible refine VOps.same ?_); (first | (refine VOps.nil ?_; try dsimp only [VThen, VBlock]) | refine VOps.vP (VPure.lss rfl rfl rfl) ?_)) | refine VCode.seq ?_ | refine VCode.region rfl ?_))
  refine VCode.cond_f rfl (decide_eq_false (by omega)) ?_
  (repeat (first | ((with_reducible refine VOps.same ?_); (first | (refine VOps.nil ?_; try dsimp only [VThen, VBlock]) | refine VOps.vP (VPure.move rfl rfl) ?_ | refine VOps.vP (VPure.assign rfl rfl) ?_)) | refine VCode.seq ?_ | refine VCode.region rfl ?_ | refine VCode.exit ?_))
  refine VCode.freeze (id := 1) rfl ?_
  refine VCode.retD rfl rfl (.tmp rfl .nil) ?_
  rw [hout, List.take_of_length_le (by rw [onOf_len hG]; omega)]; rfl
end Go.Proofs.Ytfjfbapiheehaaa.V
end
section
set_option linter.unusedVariables false
set_option linter.unusedSimpArgs false
namespace Go.Proofs.Ytfjfbapiheehaaa.V
open Go Go.RowKit Go.Proofs.Ytfjfbapiheehaaa.DG
section
variable {P : Program} {n : Nat} {cx : Cx} {st : St} {o : Oper}
theorem VPure.min {x y : Operand} {a b : Int} {ts : Array TypeId} (ho : o.op = .call { callee := .builtin .min, args := #[x, y], argTypes := ts }) (hx : ev st.s x = some (.val (.int .i64 a))) (hy : ev st.s y = some (.val (.int .i64 b))) : VPure P n cx o st (.val (.int .i64 (if b < a then b else a))) := fun g a' w r => ⟨_, .val _ rfl, fun w' => by
 have e1 := (ev_rep r hx).val_inv
 have e2 := (ev_rep r hy).val_inv
 unfold execOp; rw [ho]
 simp [e1, e2, resolve, invoke, builtin, Builtin.min_, Builtin.min2]⟩
end
def Asc (p : Nat → Bool) (a k f : Nat) : Prop := (f = a ∧ ∀ b, b < k → p b = false) ∨ (f < k ∧ p f = true ∧ ∀ b, b < f → p b = false)
theorem Asc.zero (p : Nat → Bool) (a : Nat) : Asc p a 0 a := .inl ⟨rfl, fun b h => by omega⟩
theorem Asc.no {p : Nat → Bool} {a k f : Nat} (h : Asc p a k f) (hp : p k = false) : Asc p a (k + 1) f := by
 rcases h with ⟨rfl, h⟩ | ⟨h1, h2, h3⟩
 ·refine .inl ⟨rfl, fun b hb => ?_⟩
  by_cases e : b = k
  ·subst e; exact hp
  ·exact h b (by omega)
 ·exact .inr ⟨by omega, h2, h3⟩
theorem Asc.done {p : Nat → Bool} {a f : Nat} (h : Asc p a a f) : IsFirst p a f := by
 rcases h with ⟨rfl, h⟩ | ⟨h1, h2, h3⟩
 ·exact ⟨Nat.le_refl _, fun h => by omega, h⟩
 ·exact ⟨by omega, fun _ => h2, h3⟩
end Go.Proofs.Ytfjfbapiheehaaa.V
end
section
set_option linter.unusedVariables false
set_option linter.unusedSimpArgs false
namespace Go.Proofs.Ytfjfbapiheehaaa.V
open Go Go.RowKit
end Go.Proofs.Ytfjfbapiheehaaa.V
end
section
set_option linter.unusedVariables false
set_option linter.unusedSimpArgs false
namespace Go.Proofs.Ytfjfbapiheehaaa.V
open Go Go.RowKit Go.Proofs.Ytfjfbapiheehaaa.DG
set_option maxHeartbeats 4000000 in
theorem steps_v (g : Gr) (w : List Spot) (hg : Sized g) (hw : w.length ≤ 1000000) : VCalls Try.prog 69 [gV g, sV w] [] 0 (Gives (.sl 4 ((stepsOf g w).map encSt))) := by
 have ht := hg.terms
 have hn := hg.names
 have hsl := spots_len g
 refine VCalls.enterD (n := 60) Try.func69 rfl rfl (by simp) rfl (fun cx hcx => ?_)
 (repeat (first | ((with_reducible refine VOps.same ?_); (first | (refine VOps.nil ?_; try dsimp only [VThen, VBlock]) | refine VOps.vP (VPure.assign rfl rfl) ?_ | refine VOps.vV (VLoad.boxA rfl rfl rfl (by rfl) (leR (by rfl)) (by decide)) ?_ | refine VOps.box rfl rfl (by kernel_rfl) rfl rfl rfl rfl ?_)) | refine VCode.seq ?_ | refine VCode.region rfl ?_))
 (refine VOps.callL (ch := []) [] rfl Try.func18 rfl (by kernel_rfl) rfl rfl rfl rfl ?hh (by decide) rfl rfl rfl (spots_o g hg) rfl (by rfl) rfl ?_; (case hh => repeat (first | exact SubH.nil | refine SubH.cons rfl rfl rfl ?_)))
 refine VOps.freeze (id := 1) rfl ?_
 (repeat (first | ((with_reducible refine VOps.same ?_); (first | (refine VOps.nil ?_; try dsimp only [VThen, VBlock]) | refine VOps.vP (VPure.move rfl rfl) ?_ | refine VOps.vP (VPure.len_map TI.und' rfl rfl) ?_)) | refine VCode.block ?_))
 refine VCode.nilObj 5 116 4 rfl ?_
 refine VCode.loop (fun m st => ∃ (k : Nat) (out : List (Nat × Pl)), k ≤ (spots g).length ∧ m = (spots g).length - k ∧ out = (((spots g).take k).filter fun x => !isIn w x).map (stepOf g) ∧ st = ⟨[(13, .val (.int .i64 (k : Int))), (12, .val (.int .i64 ((spots g).length : Int))), (11, sV (spots g)), (5, .ref 1), (1, sV w), (2, .ptr 0 0)], [(0, gO g), (1, .arr 116 4 (out.map encSt))], 2⟩) (spots g).length ?_ ?_
 ·(refine Less.mk (l := [0, 2]) hcx ?ss ?hh rfl (by decide) rfl ⟨0, [], by omega, by omega, rfl, rfl⟩; (case ss => repeat (first | exact SubS.nil | refine SubS.cons rfl rfl ?_ | refine SubS.cons (ciI (by omega)) rfl ?_ | refine SubS.cons (ciB (by assumption)) rfl ?_)); (case hh => repeat (first | exact SubH.nil | refine SubH.cons rfl rfl rfl ?_)))
 rintro m st ⟨k, out, hk, rfl, hout, rfl⟩
 have hol : out.length ≤ 480 := by
  have := List.length_filter_le (fun x => !isIn w x) ((spots g).take k)
  rw [List.length_take] at this
  rw [hout, List.length_map]; omega
 cases hq : (spots g)[k]? with
 | some x =>
  have hlt : k < (spots g).length := (List.getElem?_eq_some_iff.1 hq).1
  have hnx := congrArg (List.map (stepOf g)) (take_filter (p := fun x => !isIn w x) hq)
  rw [List.map_append, ← hout] at hnx
  obtain ⟨hG, i1, j1, r1, s1, a1, b1, hsp⟩ := spot_at (List.mem_of_getElem? hq)
  have hr1 := hsp.hr
  have hs1 := hsp.hs
  have hl1 := hsp.hl
  have hy1 := hsp.hy
  have ha1 := hsp.ha
  have hb1 := hsp.hb
  have hrl := (hG.rules.2.2 i1 r1 hr1).2.2.1
  have hse : encSt (stepOf g x) = [.val (.int .i64 (r1.left - (g.terms.length : Int))), .val (.int .i64 (s1 - (g.terms.length : Int))), .val (.bool (decide (0 < (j1 : Int)))), .val (.bool (decide ((j1 : Int) < (r1.right.length : Int) - 1)))] := by
   have e1 : r1.left - (g.terms.length : Int) = (a1 : Int) := by omega
   have e2 : s1 - (g.terms.length : Int) = (b1 : Int) := by omega
   have e3 : rightLen g x = r1.right.length := by unfold rightLen; rw [hsp.hx]; simp only [Int.toNat_natCast, hr1]
   unfold encSt stepOf
   rw [hsp.he, e1, e2, e3, hsp.hx]
  obtain rfl := hsp.hx
  (repeat (first | ((with_reducible refine VOps.same ?_); (first | (refine VOps.nil ?_; try dsimp only [VThen, VBlock]) | refine VOps.vP (VPure.lss rfl rfl rfl) ?_)) | refine VCode.seq ?_ | refine VCode.region rfl ?_))
  refine VCode.cond_t rfl (decide_eq_true (by omega)) ?_
  (repeat (first | ((with_reducible refine VOps.same ?_); (first | (refine VOps.nil ?_; try dsimp only [VThen, VBlock]) | refine VOps.vP (VPure.move rfl rfl) ?_ | refine VOps.vP (VPure.idx_map rfl rfl rfl (by assumption)) ?_ | refine VOps.vV (VLoad.elA rfl rfl (by rfl) (leR (by rfl))) ?_ | refine VOps.vV (VLoad.boxA rfl rfl rfl (by rfl) (leR (by rfl)) (by decide)) ?_ | refine VOps.alloc rfl rfl (by kernel_rfl) rfl (by kernel_rfl) rfl ?_ | refine VOps.store rfl rfl (by kernel_rfl) rfl rfl rfl rfl rfl rfl (leR (by rfl)) rfl ?_)) | refine VCode.seq ?_ | refine VCode.region rfl ?_ | refine VCode.block ?_ | refine VCode.skip ?_))
  refine VOps.pure rfl Try.func65 rfl (by kernel_rfl) rfl rfl rfl rfl rfl rfl rfl (contP_v w ((i1 : Int), (j1 : Int)) hw) ?_
  (repeat (first | ((with_reducible refine VOps.same ?_); (first | (refine VOps.nil ?_; try dsimp only [VThen, VBlock])))))
  refine VCode.cond rfl (fun hb => ?_) (fun hb => ?_)
  ·rw [if_neg (by rw [hb]; simp), List.map_nil, List.append_nil] at hnx
   (repeat (first | ((with_reducible refine VOps.same ?_); (first | (refine VOps.nil ?_; try dsimp only [VThen, VBlock]) | refine VOps.vP (VPure.move rfl rfl) ?_ | refine VOps.vP (VPure.addK rfl rfl rfl (by omega)) ?_)) | refine VCode.region rfl ?_ | refine VCode.exit ?_))
   (refine Less.mk (l := [0, 1]) hcx ?ss ?hh rfl (by decide) rfl ⟨_, ?_, k + 1, out, by omega, rfl, hnx.symm, rfl⟩; (case ss => repeat (first | exact SubS.nil | refine SubS.cons rfl rfl ?_ | refine SubS.cons (ciI (by omega)) rfl ?_ | refine SubS.cons (ciB (by assumption)) rfl ?_)); (case hh => repeat (first | exact SubH.nil | refine SubH.cons rfl rfl rfl ?_)))
   omega
  ·rw [if_pos (by rw [hb]; rfl), List.map_cons, List.map_nil] at hnx
   (repeat (first | ((with_reducible refine VOps.same ?_); (first | (refine VOps.nil ?_; try dsimp only [VThen, VBlock]) | refine VOps.vP (VPure.idx_map rfl rfl rfl (by assumption)) ?_ | refine VOps.vP (VPure.field_ptr rfl rfl rfl) ?_ | refine VOps.vV (VLoad.box1 rfl rfl rfl rfl (by rfl) (by decide)) ?_ | refine VOps.vV (VLoad.elA rfl rfl (by rfl) (leR (by rfl))) ?_ | refine VOps.alloc rfl rfl (by kernel_rfl) rfl (by kernel_rfl) rfl ?_ | refine VOps.store rfl rfl (by kernel_rfl) rfl rfl rfl rfl rfl rfl (leR (by rfl)) rfl ?_)) | refine VCode.seq ?_ | refine VCode.region rfl ?_ | refine VCode.skip ?_))
   refine VCode.draw [4] rfl ?_
   (repeat (first | ((with_reducible refine VOps.same ?_); (first | (refine VOps.nil ?_; try dsimp only [VThen, VBlock]) | refine VOps.vP (VPure.move rfl rfl) ?_ | refine VOps.vP (VPure.len_map TI.und' rfl rfl) ?_ | refine VOps.vP (VPure.idx_map rfl rfl rfl (by assumption)) ?_ | refine VOps.vP (VPure.field_ptr rfl rfl rfl) ?_ | refine VOps.vV (VLoad.el1 rfl rfl rfl (by rfl)) ?_ | refine VOps.vV (VLoad.box1 rfl rfl rfl rfl (by rfl) (by decide)) ?_ | refine VOps.vV (VLoad.boxA rfl rfl rfl (by rfl) (leR (by rfl)) (by decide)) ?_ | refine VOps.vP (VPure.subK rfl rfl rfl (by omega)) ?_ | refine VOps.vP (VPure.lss rfl rfl rfl) ?_ | refine VOps.vP (VPure.gtr rfl rfl rfl) ?_ | refine VOps.vP (VPure.buildC rfl (by kernel_rfl) rfl (by rfl)) ?_ | refine VOps.alloc rfl rfl (by kernel_rfl) rfl (by kernel_rfl) rfl ?_ | refine VOps.store rfl rfl (by kernel_rfl) rfl rfl rfl rfl rfl rfl (leR (by rfl)) rfl ?_ | refine VOps.one rfl rfl (by kernel_rfl) rfl (by rfl) (by decide) (by decide) rfl (by rfl) (by rfl) ?_)) | refine VCode.region rfl ?_))
   refine VOps.append (zs := (out ++ [stepOf g ((i1 : Int), (j1 : Int))]).map encSt) rfl rfl (by kernel_rfl) rfl (by rfl) (by decide) rfl (.arr rfl) rfl (.arr rfl) (by simp only [List.length_append, List.length_cons, List.length_nil, List.length_map]; unfold most; omega) (by simp only [List.length_append, List.length_cons, List.length_nil, List.length_map]; unfold most; omega) rfl ( by rw [List.map_append, List.map_cons, List.map_nil, hse]) ?_
   (repeat (first | ((with_reducible refine VOps.same ?_); (first | (refine VOps.nil ?_; try dsimp only [VThen, VBlock]) | refine VOps.vP (VPure.move rfl rfl) ?_ | refine VOps.vP (VPure.assign rfl rfl) ?_ | refine VOps.vP (VPure.addK rfl rfl rfl (by omega)) ?_)) | refine VCode.region rfl ?_))
   (refine Less.mk (l := [0, 6]) hcx ?ss ?hh rfl (by decide) rfl ⟨_, ?_, k + 1, out ++ [stepOf g ((i1 : Int), (j1 : Int))], by omega, rfl, hnx.symm, rfl⟩; (case ss => repeat (first | exact SubS.nil | refine SubS.cons rfl rfl ?_ | refine SubS.cons (ciI (by omega)) rfl ?_ | refine SubS.cons (ciB (by assumption)) rfl ?_)); (case hh => repeat (first | exact SubH.nil | refine SubH.cons rfl rfl rfl ?_)))
   omega
 | none =>
  have hge : (spots g).length ≤ k := List.getElem?_eq_none_iff.1 hq
  (repeat (first | ((with_reducible refine VOps.same ?_); (first | (refine VOps.nil ?_; try dsimp only [VThen, VBlock]) | refine VOps.vP (VPure.lss rfl rfl rfl) ?_)) | refine VCode.seq ?_ | refine VCode.region rfl ?_))
  refine VCode.cond_f rfl (decide_eq_false (by omega)) ?_
  (repeat (first | ((with_reducible refine VOps.same ?_); (first | (refine VOps.nil ?_; try dsimp only [VThen, VBlock]) | refine VOps.vP (VPure.move rfl rfl) ?_ | refine VOps.vP (VPure.assign rfl rfl) ?_)) | refine VCode.seq ?_ | refine VCode.region rfl ?_ | refine VCode.exit ?_))
  refine VCode.freeze (id := 1) rfl ?_
  refine VCode.retD rfl rfl (.tmp rfl .nil) ?_
  rw [List.take_of_length_le hge] at hout
  have : out = stepsOf g w := hout
  rw [this]; rfl
def mapFrom (ps : List Pl) (i : Nat) : List (List D × List D) := (ps.zipIdx i).map fun p => (encPl p.1, [.val (.int .i64 (p.2 : Int))])
def mapOf (ps : List Pl) : List (List D × List D) := mapFrom ps 0
theorem map_len (ps : List Pl) (i : Nat) : ∀ e ∈ mapFrom ps i, e.1.length = 3 := by
 intro e he
 obtain ⟨p, _, rfl⟩ := List.mem_map.1 he
 rfl
theorem mapOf_len (ps : List Pl) : (mapOf ps).length = ps.length := by simp [mapOf, mapFrom]
def plEq (y p : Pl) : Bool := decide ((y.1 : Int) = (p.1 : Int)) && ((y.2.1 == p.2.1) && ((y.2.2 == p.2.2) && true))
theorem plEq_iff (y p : Pl) : plEq y p = true ↔ y = p := by
 obtain ⟨a, b, c⟩ := y
 obtain ⟨d, e, f⟩ := p
 simp [plEq]
 intro _ _
 omega
theorem map_find' (y : Pl) (ps : List Pl) : ∀ i : Nat, findE (fun r => eqRow [.int .i64, .bool, .bool] [.val (.int .i64 (y.1 : Int)), .val (.bool y.2.1), .val (.bool y.2.2)] (r.map D.toV)) (mapFrom ps i) = some ((ps.findIdx? (plEq y)).map fun j => [.val (.int .i64 ((i + j : Nat) : Int))]) := by
 induction ps with
 | nil => intro i; rfl
 | cons u l ih =>
  intro i
  have e : mapFrom (u :: l) i = (encPl u, [.val (.int .i64 (i : Int))]) :: mapFrom l (i + 1) := by simp [mapFrom, List.zipIdx_cons]
  rw [e]
  have h1 : eqRow [.int .i64, .bool, .bool] [.val (.int .i64 (y.1 : Int)), .val (.bool y.2.1), .val (.bool y.2.2)] ((encPl u).map D.toV) = some (plEq y u) := rfl
  simp only [findE, h1, List.findIdx?_cons]
  cases hb : plEq y u with
  | true => rfl
  | false =>
   simp only [ih (i + 1)]
   simp only [Bool.false_eq_true, if_false, Option.map_map]
   congr 1
   cases l.findIdx? (plEq y) with
   | none => rfl
   | some j => simp [Nat.add_comm, Nat.add_left_comm]
theorem find_not {y : Pl} {ps : List Pl} (h : y ∉ ps) : ps.findIdx? (plEq y) = none := by
 rw [List.findIdx?_eq_none_iff]
 intro p hp
 rw [Bool.eq_false_iff]
 intro he
 rw [plEq_iff] at he
 subst he; exact h hp
theorem find_is {y : Pl} {ps : List Pl} (h : y ∈ ps) : ∃ j, ps.findIdx? (plEq y) = some j := by
 cases hf : ps.findIdx? (plEq y) with
 | some j => exact ⟨j, rfl⟩
 | none =>
  rw [List.findIdx?_eq_none_iff] at hf
  have := hf y h
  rw [(plEq_iff y y).2 rfl] at this; cases this
theorem map_snoc (ps : List Pl) (y : Pl) : mapOf ps ++ [(encPl y, [.val (.int .i64 (ps.length : Int))])] = mapOf (ps ++ [y]) := by
 unfold mapOf mapFrom
 rw [List.zipIdx_append, List.map_append]
 simp
theorem map_get {ps : List Pl} {j : Nat} {key val : List D} (h : (mapOf ps)[j]? = some (key, val)) : ∃ p, ps[j]? = some p ∧ key = encPl p ∧ val = [.val (.int .i64 (j : Int))] := by
 unfold mapOf mapFrom at h
 rw [List.getElem?_map, List.getElem?_zipIdx] at h
 cases hp : ps[j]? with
 | none => rw [hp] at h; cases h
 | some p =>
  rw [hp] at h
  simp at h
  exact ⟨p, rfl, h.1.symm, h.2.symm⟩
theorem foldl_take {α β : Type} (f : β → α → β) (s : β) {l : List α} {k : Nat} {x : α} (h : l[k]? = some x) : (l.take (k + 1)).foldl f s = f ((l.take k).foldl f s) x := by
 rw [List.take_add_one, h, List.foldl_append]; rfl
abbrev lV (l : List (Nat × Pl)) : V := .sl 4 (l.map encSt)
set_option maxRecDepth 20000 in
set_option maxHeartbeats 8000000 in
theorem places_v (l : List (Nat × Pl)) (n a : Nat) (hn : n ≤ 4000) (hl : ∀ s ∈ l, s.2.1 < n) (hll : l.length ≤ 1000) : VCalls Try.prog 70 [lV l, .val (.int .i64 (n : Int)), .val (.int .i64 (a : Int))] [] 0 (Leaves (.ref 0) [(0, .map (mapOf (plOf l n a)))] 1) := by
 have hr := places_bfs hl a
 generalize plOf l n a = r at hr
 refine VCalls.enterL (n := 75) Try.func70 rfl rfl (by simp) (fun cx hcx => ?_)
 (repeat (first | ((with_reducible refine VOps.same ?_); (first | (refine VOps.nil ?_; try dsimp only [VThen, VBlock]) | refine VOps.vP (VPure.move rfl rfl) ?_ | refine VOps.vP (VPure.assign rfl rfl) ?_ | refine VOps.vP (VPure.add rfl rfl rfl) ?_ | refine VOps.vP (VPure.mul rfl rfl rfl) ?_ | refine VOps.makeMap rfl rfl (by kernel_rfl) rfl ?_)) | refine VCode.seq ?_ | refine VCode.region rfl ?_))
 refine VOps.says (d := 18) (v := .val (.int .i64 ((4 * n + 1 : Nat) : Int))) rfl (by
  have e : wrap64 (4 * (n : Int)) = 4 * (n : Int) := wrap_in (by omega)
  have e2 : ((4 * n + 1 : Nat) : Int) = 4 * (n : Int) + 1 := by omega
  rw [e2]
  first | rw [e, wrap_in (by omega)] | rw [e]) ?_
 (repeat (first | ((with_reducible refine VOps.same ?_); (first | (refine VOps.nil ?_; try dsimp only [VThen, VBlock]) | refine VOps.vP (VPure.move rfl rfl) ?_ | refine VOps.vP (VPure.assign rfl rfl) ?_ | refine VOps.vP (VPure.buildC rfl (by kernel_rfl) rfl (by rfl)) ?_ | (refine VOps.makeChan rfl rfl (by kernel_rfl) rfl rfl ?b1 ?b2 ?_; (case b1 => unfold most; (first | omega | (simp only [List.length_map, List.length_append, List.length_cons, List.length_nil] at *; omega) | (simp; omega))); (case b2 => unfold most; (first | omega | (simp only [List.length_map, List.length_append, List.length_cons, List.length_nil] at *; omega) | (simp; omega)))))) | refine VCode.seq ?_ | refine VCode.region rfl ?_))
 (refine VOps.sendP (buf' := [((a, false, false) : Pl)].map encPl) rfl rfl rfl rfl rfl rfl (by rfl) ?b1 ( by rfl) ?_; (case b1 => (first | omega | (simp only [List.length_map, List.length_append, List.length_cons, List.length_nil] at *; omega) | (simp; omega))))
 (repeat (first | ((with_reducible refine VOps.same ?_); (first | (refine VOps.nil ?_; try dsimp only [VThen, VBlock]))) | refine VCode.block ?_))
 refine VCode.loop (fun m st => ∃ (q seen : List Pl), bfs2 l m q seen = some r ∧ q.length + unseen n seen ≤ 4 * n + 1 ∧ st = ⟨[(7, .ref 0), (8, .ref 1), (0, lV l)], [(0, .map (mapOf seen)), (1, .chan (4 * n + 1) (q.map encPl) false)], 2⟩) (4 * n + 2) ?_ ?_
 ·(refine Less.mk (l := [0, 1]) hcx ?ss ?hh rfl (by decide) rfl ⟨[(a, false, false)], [], hr, by rw [unseen_nil]; simp; omega, rfl⟩; (case ss => repeat (first | exact SubS.nil | refine SubS.cons rfl rfl ?_ | refine SubS.cons (ciI (by omega)) rfl ?_ | refine SubS.cons (ciB (by assumption)) rfl ?_)); (case hh => repeat (first | exact SubH.nil | refine SubH.cons rfl rfl rfl ?_)))
 clear hr
 rintro m st ⟨q, seen, hr, hfit, rfl⟩
 cases m with
 | zero => cases hr
 | succ m =>
 cases q with
 | nil =>
  obtain rfl : seen = r := Option.some.inj hr
  (repeat (first | ((with_reducible refine VOps.same ?_); (first | (refine VOps.nil ?_; try dsimp only [VThen, VBlock]) | refine VOps.vP (VPure.move rfl rfl) ?_ | refine VOps.vP (VPure.extract rfl rfl rfl) ?_ | refine VOps.vP (VPure.eqi rfl rfl rfl) ?_ | refine VOps.sel_none rfl rfl rfl rfl rfl ?_)) | refine VCode.seq ?_ | refine VCode.region rfl ?_ | refine VCode.block ?_))
  refine VCode.cond_f rfl rfl ?_
  (repeat (first | ((with_reducible refine VOps.same ?_); (first | (refine VOps.nil ?_; try dsimp only [VThen, VBlock]) | refine VOps.vP (VPure.move rfl rfl) ?_ | refine VOps.vP (VPure.assign rfl rfl) ?_)) | refine VCode.seq ?_ | refine VCode.region rfl ?_))
  refine VCode.ret ?_
  (show Less cx _ _; refine Less.mkx (l := [0]) (st' := ⟨[(6, .ref 0)], [(0, .map (mapOf seen))], 1⟩) 0 hcx (Nat.le_of_ble_eq_true rfl) (by decide) ?ss ?hh rfl (by decide) rfl ⟨_, (.tmp rfl .nil), rfl, rfl, rfl⟩; (case ss => repeat (first | exact SubS.nil | refine SubS.cons rfl rfl ?_ | refine SubS.cons (ciI (by omega)) rfl ?_ | refine SubS.cons (ciB (by assumption)) rfl ?_)); (case hh => repeat (first | exact SubH.nil | refine SubH.cons rfl rfl rfl ?_)))
 | cons x q =>
  have hr : bfs2 l m (l.foldl (visit2 x) (q, seen)).1 (l.foldl (visit2 x) (q, seen)).2 = some r := hr
  simp only [List.length_cons] at hfit
  obtain ⟨x1, xl, xr⟩ := x
  (repeat (first | ((with_reducible refine VOps.same ?_); (first | (refine VOps.nil ?_; try dsimp only [VThen, VBlock]) | refine VOps.vP (VPure.move rfl rfl) ?_ | refine VOps.vP (VPure.extract rfl rfl rfl) ?_ | refine VOps.vP (VPure.eqi rfl rfl rfl) ?_ | refine VOps.sel_some rfl rfl rfl rfl rfl ?_)) | refine VCode.seq ?_ | refine VCode.region rfl ?_ | refine VCode.block ?_))
  refine VCode.cond_t rfl rfl ?_
  (repeat (first | ((with_reducible refine VOps.same ?_); (first | (refine VOps.nil ?_; try dsimp only [VThen, VBlock]) | refine VOps.vP (VPure.move rfl rfl) ?_ | refine VOps.vP (VPure.extract rfl rfl rfl) ?_ | refine VOps.vP (VPure.len_map TI.und' rfl rfl) ?_ | refine VOps.alloc rfl rfl (by kernel_rfl) rfl (by kernel_rfl) rfl ?_ | refine VOps.store rfl rfl (by kernel_rfl) rfl rfl rfl rfl rfl rfl (leR (by rfl)) rfl ?_)) | refine VCode.seq ?_ | refine VCode.region rfl ?_ | refine VCode.block ?_))
  refine VCode.loop (fun m' st => ∃ (j : Nat) (q' seen' : List Pl), j ≤ l.length ∧ m' = l.length - j ∧ (q', seen') = (l.take j).foldl (visit2 (x1, xl, xr)) (q, seen) ∧ st = ⟨[(31, .val (.int .i64 (j : Int))), (30, .val (.int .i64 (l.length : Int))), (29, lV l), (9, .ptr 2 0), (7, .ref 0), (8, .ref 1), (0, lV l)], [(0, .map (mapOf seen')), (1, .chan (4 * n + 1) (q'.map encPl) false), (2, .cells 67 [.val (.int .i64 (x1 : Int)), .val (.bool xl), .val (.bool xr)])], 3⟩) l.length ?_ ?_
  ·(refine Less.mk (l := [0, 1, 2]) hcx ?ss ?hh rfl (by decide) rfl ⟨0, q, seen, by omega, by omega, rfl, rfl⟩; (case ss => repeat (first | exact SubS.nil | refine SubS.cons rfl rfl ?_ | refine SubS.cons (ciI (by omega)) rfl ?_ | refine SubS.cons (ciB (by assumption)) rfl ?_)); (case hh => repeat (first | exact SubH.nil | refine SubH.cons rfl rfl rfl ?_)))
  rintro m' st ⟨j, q', seen', hj, rfl, hqb, rfl⟩
  have hv := visits2_len (n := n) (x1, xl, xr) (l.take j) (fun s hs => hl s (List.mem_of_mem_take hs)) (q, seen)
  rw [← hqb] at hv
  simp only at hv
  cases hs : l[j]? with
  | some s =>
   have hlt : j < l.length := (List.getElem?_eq_some_iff.1 hs).1
   have hsn := hl s (List.mem_of_getElem? hs)
   have hst := foldl_take (visit2 (x1, xl, xr)) (q, seen) hs
   rw [← hqb] at hst
   obtain ⟨f, b, sl, sr⟩ := s
   have hsn : b < n := hsn
   (repeat (first | ((with_reducible refine VOps.same ?_); (first | (refine VOps.nil ?_; try dsimp only [VThen, VBlock]) | refine VOps.vP (VPure.lss rfl rfl rfl) ?_)) | refine VCode.seq ?_ | refine VCode.region rfl ?_))
   refine VCode.cond_t rfl (decide_eq_true (by omega)) ?_
   (repeat (first | refine VCode.seq ?_ | refine VCode.skip ?_))
   refine VCode.block ?_
   refine VCode.seq ?_
   refine VCode.thenTo ⟨[(11, .ptr 3 0), (31, .val (.int .i64 (j : Int))), (30, .val (.int .i64 (l.length : Int))), (29, lV l), (9, .ptr 2 0), (7, .ref 0), (8, .ref 1), (0, lV l)], [(0, .map (mapOf seen')), (1, .chan (4 * n + 1) (q'.map encPl) false), (2, .cells 67 [.val (.int .i64 (x1 : Int)), .val (.bool xl), .val (.bool xr)]), (3, .cells 116 [.val (.int .i64 (f : Int)), .val (.int .i64 (b : Int)), .val (.bool sl), .val (.bool sr)])], 4⟩ ?_ ?_
   ·(repeat (first | ((with_reducible refine VOps.same ?_); (first | (refine VOps.nil ?_; try dsimp only [VThen, VBlock]) | refine VOps.vP (VPure.idx_map rfl rfl rfl (by assumption)) ?_ | refine VOps.vV (VLoad.elA rfl rfl (by rfl) (leR (by rfl))) ?_ | refine VOps.alloc rfl rfl (by kernel_rfl) rfl (by kernel_rfl) rfl ?_ | refine VOps.store rfl rfl (by kernel_rfl) rfl rfl rfl rfl rfl rfl (leR (by rfl)) rfl ?_)) | refine VCode.region rfl ?_))
    (refine Less.mk (l := [0, 1, 2, 3]) hcx ?ss ?hh rfl (by decide) rfl rfl; (case ss => repeat (first | exact SubS.nil | refine SubS.cons rfl rfl ?_ | refine SubS.cons (ciI (by omega)) rfl ?_ | refine SubS.cons (ciB (by assumption)) rfl ?_)); (case hh => repeat (first | exact SubH.nil | refine SubH.cons rfl rfl rfl ?_)))
   refine VCode.seq ?_
   refine VCode.thenTo ⟨[(12, .ptr 4 0), (11, .ptr 3 0), (31, .val (.int .i64 (j : Int))), (30, .val (.int .i64 (l.length : Int))), (29, lV l), (9, .ptr 2 0), (7, .ref 0), (8, .ref 1), (0, lV l)], [(0, .map (mapOf seen')), (1, .chan (4 * n + 1) (q'.map encPl) false), (2, .cells 67 [.val (.int .i64 (x1 : Int)), .val (.bool xl), .val (.bool xr)]), (3, .cells 116 [.val (.int .i64 (f : Int)), .val (.int .i64 (b : Int)), .val (.bool sl), .val (.bool sr)]), (4, .cells 67 [.val (.int .i64 (b : Int)), .val (.bool (xl || sl)), .val (.bool (xr || sr))])], 5⟩ ?_ ?_
   ·cases xl <;> cases xr
    all_goals (repeat (first | ((with_reducible refine VOps.same ?_); (first | (refine VOps.nil ?_; try dsimp only [VThen, VBlock]) | refine VOps.vP (VPure.move rfl rfl) ?_ | refine VOps.vP (VPure.field_ptr rfl rfl rfl) ?_ | refine VOps.vV (VLoad.box1 rfl rfl rfl rfl (by rfl) (by decide)) ?_ | refine VOps.vP (VPure.pick_t rfl rfl rfl) ?_ | refine VOps.vP (VPure.pick_f rfl rfl rfl) ?_ | refine VOps.vP (VPure.buildC rfl (by kernel_rfl) rfl (by rfl)) ?_ | refine VOps.alloc rfl rfl (by kernel_rfl) rfl (by kernel_rfl) rfl ?_ | refine VOps.store rfl rfl (by kernel_rfl) rfl rfl rfl rfl rfl rfl (leR (by rfl)) rfl ?_ | refine VOps.passv rfl (by kernel_rfl) rfl ?_)) | refine VCode.region rfl ?_))
    all_goals (refine Less.mk (l := [0, 1, 2, 3, 4]) hcx ?ss ?hh rfl (by decide) rfl rfl; (case ss => repeat (first | exact SubS.nil | refine SubS.cons rfl rfl ?_ | refine SubS.cons (ciI (by omega)) rfl ?_ | refine SubS.cons (ciB (by assumption)) rfl ?_)); (case hh => repeat (first | exact SubH.nil | refine SubH.cons rfl rfl rfl ?_)))
   have hadv : adv (x1, xl, xr) (f, b, sl, sr) = (b, xl || sl, xr || sr) := rfl
   have hvis : visit2 (x1, xl, xr) (q', seen') (f, b, sl, sr) = if f = x1 ∧ (b, xl || sl, xr || sr) ∉ seen' then (q' ++ [(b, xl || sl, xr || sr)], seen' ++ [(b, xl || sl, xr || sr)]) else (q', seen') := rfl
   rw [hvis] at hst
   clear hvis hadv
   generalize (xl || sl) = yl at hst ⊢
   generalize (xr || sr) = yr at hst ⊢
   have hf := map_find' (b, yl, yr) seen' 0
   by_cases hin : (b, yl, yr) ∈ seen'
   ·obtain ⟨i, hi⟩ := find_is hin
    rw [hi] at hf
    rw [if_neg (fun h => h.2 hin)] at hst
    (repeat (first | ((with_reducible refine VOps.same ?_); (first | refine VOps.vP (VPure.move rfl rfl) ?_ | refine VOps.vV (VLoad.boxA rfl rfl rfl (by rfl) (leR (by rfl)) (by decide)) ?_)) | refine VCode.seq ?_ | refine VCode.region rfl ?_))
    refine VOps.vv rfl (by kernel_rfl) rfl (VLoad.lookup (ds := [.int .i64, .bool, .bool]) rfl rfl rfl rfl rfl (by decide) rfl rfl (map_len seen' 0) hf (by decide)) ?_
    (repeat (first | ((with_reducible refine VOps.same ?_); (first | (refine VOps.nil ?_; try dsimp only [VThen, VBlock]) | refine VOps.vP (VPure.move rfl rfl) ?_ | refine VOps.vP (VPure.assign rfl rfl) ?_ | refine VOps.vP (VPure.extract rfl rfl rfl) ?_ | refine VOps.vP (VPure.field_ptr rfl rfl rfl) ?_ | refine VOps.vV (VLoad.box1 rfl rfl rfl rfl (by rfl) (by decide)) ?_ | refine VOps.vP (VPure.eqi rfl rfl rfl) ?_)) | refine VCode.seq ?_ | refine VCode.region rfl ?_))
    refine VOps.bool (d := 64) rfl (fun c1 => ?_) (fun c1 => ?_)
    ·(repeat (first | ((with_reducible refine VOps.same ?_); (first | (refine VOps.nil ?_; try dsimp only [VThen, VBlock]) | refine VOps.vP (VPure.move rfl rfl) ?_ | refine VOps.vP (VPure.not rfl rfl) ?_ | refine VOps.vP (VPure.pick_t rfl rfl rfl) ?_))))
     refine VCode.cond_f rfl rfl ?_
     (repeat (first | ((with_reducible refine VOps.same ?_); (first | (refine VOps.nil ?_; try dsimp only [VThen, VBlock]) | refine VOps.vP (VPure.move rfl rfl) ?_ | refine VOps.vP (VPure.addK rfl rfl rfl (by omega)) ?_)) | refine VCode.region rfl ?_ | refine VCode.skip ?_))
     (refine Less.mk (l := [0, 1, 2]) hcx ?ss ?hh rfl (by decide) rfl ⟨_, ?_, j + 1, q', seen', by omega, rfl, hst.symm, rfl⟩; (case ss => repeat (first | exact SubS.nil | refine SubS.cons rfl rfl ?_ | refine SubS.cons (ciI (by omega)) rfl ?_ | refine SubS.cons (ciB (by assumption)) rfl ?_)); (case hh => repeat (first | exact SubH.nil | refine SubH.cons rfl rfl rfl ?_)))
     omega
    ·(repeat (first | ((with_reducible refine VOps.same ?_); (first | (refine VOps.nil ?_; try dsimp only [VThen, VBlock]) | refine VOps.vP (VPure.pick_f rfl rfl rfl) ?_ | refine VOps.passv rfl (by kernel_rfl) rfl ?_))))
     refine VCode.cond_f rfl rfl ?_
     (repeat (first | ((with_reducible refine VOps.same ?_); (first | (refine VOps.nil ?_; try dsimp only [VThen, VBlock]) | refine VOps.vP (VPure.move rfl rfl) ?_ | refine VOps.vP (VPure.addK rfl rfl rfl (by omega)) ?_)) | refine VCode.region rfl ?_ | refine VCode.skip ?_))
     (refine Less.mk (l := [0, 1, 2]) hcx ?ss ?hh rfl (by decide) rfl ⟨_, ?_, j + 1, q', seen', by omega, rfl, hst.symm, rfl⟩; (case ss => repeat (first | exact SubS.nil | refine SubS.cons rfl rfl ?_ | refine SubS.cons (ciI (by omega)) rfl ?_ | refine SubS.cons (ciB (by assumption)) rfl ?_)); (case hh => repeat (first | exact SubH.nil | refine SubH.cons rfl rfl rfl ?_)))
     omega
   ·rw [find_not hin] at hf
    have hun := unseen_add (n := n) (y := (b, yl, yr)) hsn hin
    (repeat (first | ((with_reducible refine VOps.same ?_); (first | refine VOps.vP (VPure.move rfl rfl) ?_ | refine VOps.vV (VLoad.boxA rfl rfl rfl (by rfl) (leR (by rfl)) (by decide)) ?_)) | refine VCode.seq ?_ | refine VCode.region rfl ?_))
    refine VOps.vv rfl (by kernel_rfl) rfl (VLoad.lookup (ds := [.int .i64, .bool, .bool]) rfl rfl rfl rfl rfl (by decide) rfl rfl (map_len seen' 0) hf (by decide)) ?_
    (repeat (first | ((with_reducible refine VOps.same ?_); (first | (refine VOps.nil ?_; try dsimp only [VThen, VBlock]) | refine VOps.vP (VPure.move rfl rfl) ?_ | refine VOps.vP (VPure.assign rfl rfl) ?_ | refine VOps.vP (VPure.extract rfl rfl rfl) ?_ | refine VOps.vP (VPure.field_ptr rfl rfl rfl) ?_ | refine VOps.vV (VLoad.box1 rfl rfl rfl rfl (by rfl) (by decide)) ?_ | refine VOps.vP (VPure.eqi rfl rfl rfl) ?_)) | refine VCode.seq ?_ | refine VCode.region rfl ?_))
    refine VOps.bool (d := 64) rfl (fun c1 => ?_) (fun c1 => ?_)
    ·have c1 : f = x1 := by have := of_decide_eq_true c1; omega
     rw [if_pos ⟨c1, hin⟩] at hst
     (repeat (first | ((with_reducible refine VOps.same ?_); (first | (refine VOps.nil ?_; try dsimp only [VThen, VBlock]) | refine VOps.vP (VPure.move rfl rfl) ?_ | refine VOps.vP (VPure.not rfl rfl) ?_ | refine VOps.vP (VPure.pick_t rfl rfl rfl) ?_))))
     refine VCode.cond_t rfl rfl ?_
     (repeat (first | ((with_reducible refine VOps.same ?_); (first | refine VOps.vP (VPure.move rfl rfl) ?_ | refine VOps.vV (VLoad.boxA rfl rfl rfl (by rfl) (leR (by rfl)) (by decide)) ?_)) | refine VCode.seq ?_ | refine VCode.region rfl ?_))
     refine VOps.vv rfl (by kernel_rfl) rfl (VLoad.len_mapo TI.und' rfl rfl rfl (by decide)) ?_
     refine VOps.says (d := 71) (v := .val (.int .i64 (seen'.length : Int))) rfl (by rw [mapOf_len]) ?_
     refine VOps.mapPut (ds := [.int .i64, .bool, .bool]) (es' := mapOf (seen' ++ [(b, yl, yr)])) rfl rfl (by kernel_rfl) rfl rfl rfl rfl rfl (by decide) rfl rfl (map_len seen' 0) hf rfl rfl (map_snoc seen' (b, yl, yr)) ?_
     (repeat (first | ((with_reducible refine VOps.same ?_); (first | (refine VOps.nil ?_; try dsimp only [VThen, VBlock]) | refine VOps.vP (VPure.move rfl rfl) ?_ | refine VOps.vV (VLoad.boxA rfl rfl rfl (by rfl) (leR (by rfl)) (by decide)) ?_)) | refine VCode.region rfl ?_))
     (refine VOps.sendP (buf' := (q' ++ [(b, yl, yr)]).map encPl) rfl rfl rfl rfl rfl rfl (by rfl) ?b1 ( by rw [List.map_append]; rfl) ?_; (case b1 => (first | omega | (simp only [List.length_map, List.length_append, List.length_cons, List.length_nil] at *; omega) | (simp; omega))))
     (repeat (first | ((with_reducible refine VOps.same ?_); (first | (refine VOps.nil ?_; try dsimp only [VThen, VBlock]) | refine VOps.vP (VPure.move rfl rfl) ?_ | refine VOps.vP (VPure.addK rfl rfl rfl (by omega)) ?_)) | refine VCode.region rfl ?_))
     (refine Less.mk (l := [0, 1, 2]) hcx ?ss ?hh rfl (by decide) rfl ⟨_, ?_, j + 1, q' ++ [(b, yl, yr)], seen' ++ [(b, yl, yr)], by omega, rfl, hst.symm, rfl⟩; (case ss => repeat (first | exact SubS.nil | refine SubS.cons rfl rfl ?_ | refine SubS.cons (ciI (by omega)) rfl ?_ | refine SubS.cons (ciB (by assumption)) rfl ?_)); (case hh => repeat (first | exact SubH.nil | refine SubH.cons rfl rfl rfl ?_)))
     omega
    ·have c1 : ¬ f = x1 := by have := of_decide_eq_false c1; omega
     rw [if_neg (fun h => c1 h.1)] at hst
     (repeat (first | ((with_reducible refine VOps.same ?_); (first | (refine VOps.nil ?_; try dsimp only [VThen, VBlock]) | refine VOps.vP (VPure.pick_f rfl rfl rfl) ?_ | refine VOps.passv rfl (by kernel_rfl) rfl ?_))))
     refine VCode.cond_f rfl rfl ?_
     (repeat (first | ((with_reducible refine VOps.same ?_); (first | (refine VOps.nil ?_; try dsimp only [VThen, VBlock]) | refine VOps.vP (VPure.move rfl rfl) ?_ | refine VOps.vP (VPure.addK rfl rfl rfl (by omega)) ?_)) | refine VCode.region rfl ?_ | refine VCode.skip ?_))
     (refine Less.mk (l := [0, 1, 2]) hcx ?ss ?hh rfl (by decide) rfl ⟨_, ?_, j + 1, q', seen', by omega, rfl, hst.symm, rfl⟩; (case ss => repeat (first | exact SubS.nil | refine SubS.cons rfl rfl ?_ | refine SubS.cons (ciI (by omega)) rfl ?_ | refine SubS.cons (ciB (by assumption)) rfl ?_)); (case hh => repeat (first | exact SubH.nil | refine SubH.cons rfl rfl rfl ?_)))
     omega
  | none =>
   have hge : l.length ≤ j := List.getElem?_eq_none_iff.1 hs
   rw [List.take_of_length_le hge] at hqb
   rw [← hqb] at hr
   (repeat (first | ((with_reducible refine VOps.same ?_); (first | (refine VOps.nil ?_; try dsimp only [VThen, VBlock]) | refine VOps.vP (VPure.lss rfl rfl rfl) ?_)) | refine VCode.seq ?_ | refine VCode.region rfl ?_))
   refine VCode.cond_f rfl (decide_eq_false (by omega)) ?_
   (repeat (first | refine VCode.exit ?_))
   (refine Less.mk (l := [0, 1]) hcx ?ss ?hh rfl (by decide) rfl ⟨m, Nat.lt_succ_self m, q', seen', hr, by omega, rfl⟩; (case ss => repeat (first | exact SubS.nil | refine SubS.cons rfl rfl ?_ | refine SubS.cons (ciI (by omega)) rfl ?_ | refine SubS.cons (ciB (by assumption)) rfl ?_)); (case hh => repeat (first | exact SubH.nil | refine SubH.cons rfl rfl rfl ?_)))
end Go.Proofs.Ytfjfbapiheehaaa.V
end
section
set_option linter.unusedVariables false
set_option linter.unusedSimpArgs false
namespace Go.Proofs.Ytfjfbapiheehaaa.V
open Go Go.RowKit Go.Proofs.Ytfjfbapiheehaaa.DG
def soL (p : Pl) : Bool := p.2.1
def soR (p : Pl) : Bool := p.2.2
def soB (p : Pl) : Bool := p.2.1 && p.2.2
abbrev plV (p : Pl) : V := .agg [.val (.int .i64 (p.1 : Int)), .val (.bool p.2.1), .val (.bool p.2.2)]
theorem soL_v (p : Pl) : VCalls Try.prog 48 [plV p] [] 0 (Gives (.val (.bool (soL p)))) := by
 refine VCalls.enterD (n := 5) Try.func48 rfl rfl (by simp) rfl (fun cx hcx => ?_)
 (repeat (first | ((with_reducible refine VOps.same ?_); (first | (refine VOps.nil ?_; try dsimp only [VThen, VBlock]) | refine VOps.vP (VPure.assign rfl rfl) ?_ | refine VOps.vP (VPure.field_ptr rfl rfl rfl) ?_ | refine VOps.vV (VLoad.box1 rfl rfl rfl rfl (by rfl) (by decide)) ?_ | refine VOps.box rfl rfl (by kernel_rfl) rfl rfl rfl rfl ?_)) | refine VCode.seq ?_ | refine VCode.region rfl ?_))
 refine VCode.retD rfl rfl (.tmp rfl .nil) ?_
 rfl
theorem soR_v (p : Pl) : VCalls Try.prog 50 [plV p] [] 0 (Gives (.val (.bool (soR p)))) := by
 refine VCalls.enterD (n := 5) Try.func50 rfl rfl (by simp) rfl (fun cx hcx => ?_)
 (repeat (first | ((with_reducible refine VOps.same ?_); (first | (refine VOps.nil ?_; try dsimp only [VThen, VBlock]) | refine VOps.vP (VPure.assign rfl rfl) ?_ | refine VOps.vP (VPure.field_ptr rfl rfl rfl) ?_ | refine VOps.vV (VLoad.box1 rfl rfl rfl rfl (by rfl) (by decide)) ?_ | refine VOps.box rfl rfl (by kernel_rfl) rfl rfl rfl rfl ?_)) | refine VCode.seq ?_ | refine VCode.region rfl ?_))
 refine VCode.retD rfl rfl (.tmp rfl .nil) ?_
 rfl
theorem soB_v (p : Pl) : VCalls Try.prog 51 [plV p] [] 0 (Gives (.val (.bool (soB p)))) := by
 obtain ⟨a, l, r⟩ := p
 refine VCalls.enterD (n := 9) Try.func51 rfl rfl (by simp) rfl (fun cx hcx => ?_)
 cases l
 ·(repeat (first | ((with_reducible refine VOps.same ?_); (first | (refine VOps.nil ?_; try dsimp only [VThen, VBlock]) | refine VOps.vP (VPure.move rfl rfl) ?_ | refine VOps.vP (VPure.assign rfl rfl) ?_ | refine VOps.vP (VPure.field_ptr rfl rfl rfl) ?_ | refine VOps.vV (VLoad.box1 rfl rfl rfl rfl (by rfl) (by decide)) ?_ | refine VOps.vP (VPure.pick_f rfl rfl rfl) ?_ | refine VOps.box rfl rfl (by kernel_rfl) rfl rfl rfl rfl ?_ | refine VOps.passv rfl (by kernel_rfl) rfl ?_)) | refine VCode.seq ?_ | refine VCode.region rfl ?_))
  refine VCode.retD rfl rfl (.tmp rfl .nil) ?_
  rfl
 ·(repeat (first | ((with_reducible refine VOps.same ?_); (first | (refine VOps.nil ?_; try dsimp only [VThen, VBlock]) | refine VOps.vP (VPure.move rfl rfl) ?_ | refine VOps.vP (VPure.assign rfl rfl) ?_ | refine VOps.vP (VPure.field_ptr rfl rfl rfl) ?_ | refine VOps.vV (VLoad.box1 rfl rfl rfl rfl (by rfl) (by decide)) ?_ | refine VOps.vP (VPure.pick_t rfl rfl rfl) ?_ | refine VOps.box rfl rfl (by kernel_rfl) rfl rfl rfl rfl ?_)) | refine VCode.seq ?_ | refine VCode.region rfl ?_))
  refine VCode.retD rfl rfl (.tmp rfl .nil) ?_
  rfl
def leftN (n : Nat) (S : List Nat) : Nat := (List.range n).countP fun j => decide (j ∉ S)
theorem leftN_add {n j : Nat} {S : List Nat} (hj : j < n) (hn : j ∉ S) : leftN n (S ++ [j]) + 1 ≤ leftN n S := by
 refine countP_lt' (y := j) (fun x hx => ?_) ?_ ?_ (List.mem_range.2 hj)
 ·simp only [decide_eq_true_eq, List.mem_append, not_or] at hx ⊢; exact hx.1
 ·simp
 ·simpa using hn
def someOf (ps : List Pl) (a : Nat) (so : Pl → Bool) (S : List Nat) : Bool := S.any fun j => (ps[j]?).any fun p => decide (p.1 = a) && so p
theorem someOf_add {ps : List Pl} {a : Nat} {so : Pl → Bool} {S : List Nat} {j : Nat} {p : Pl} (h : ps[j]? = some p) : someOf ps a so (S ++ [j]) = (someOf ps a so S || (decide (p.1 = a) && so p)) := by
 unfold someOf
 rw [List.any_append]
 simp [h]
theorem someOf_all {ps : List Pl} {a : Nat} {so : Pl → Bool} {S : List Nat} (h : ∀ j, j < ps.length → j ∈ S) : someOf ps a so S = ps.any fun p => decide (p.1 = a) && so p := by
 rw [Bool.eq_iff_iff]
 unfold someOf
 rw [List.any_eq_true, List.any_eq_true]
 constructor
 ·rintro ⟨j, _, hj⟩
  cases hp : ps[j]? with
  | none => rw [hp] at hj; cases hj
  | some p => rw [hp] at hj; exact ⟨p, List.mem_of_getElem? hp, hj⟩
 ·rintro ⟨p, hp, h2⟩
  obtain ⟨j, hj⟩ := List.getElem?_of_mem hp
  exact ⟨j, h j (List.getElem?_eq_some_iff.1 hj).1, by rw [hj]; exact h2⟩
theorem stepsOf_len (g : Gr) (w : List Spot) : (stepsOf g w).length ≤ 480 := by unfold stepsOf; rw [List.length_map]; exact restS_len g w
theorem set_take {α : Type} {ys : List α} {k : Nat} {v : α} : (ys.set k v).take k = ys.take k := List.take_set_of_le (Nat.le_refl k)
set_option maxRecDepth 20000 in
set_option maxHeartbeats 8000000 in
theorem eachL_v (g : Gr) (w : List Spot) (hg : Sized g) (hw : w.length ≤ 1000000) : VCalls Try.prog 47 [gV g, sV w, .fn 48 []] [] 0 (Gives (.sl 1 ((eachOf g w soL).map encB))) := by
 have hn := hg.names
 refine VCalls.enterD (n := 58) Try.func47 rfl rfl (by simp) rfl (fun cx hcx => ?_)
 (repeat (first | ((with_reducible refine VOps.same ?_); (first | (refine VOps.nil ?_; try dsimp only [VThen, VBlock]) | refine VOps.vP (VPure.assign rfl rfl) ?_ | refine VOps.vV (VLoad.boxA rfl rfl rfl (by rfl) (leR (by rfl)) (by decide)) ?_ | refine VOps.box rfl rfl (by kernel_rfl) rfl rfl rfl rfl ?_)) | refine VCode.seq ?_ | refine VCode.region rfl ?_))
 refine VOps.gives rfl Try.func14 rfl (by kernel_rfl) rfl rfl rfl rfl rfl rfl rfl rfl (nil2 (on_v g [] hg (by simp))) ?_
 (repeat (first | ((with_reducible refine VOps.same ?_); (first | (refine VOps.nil ?_; try dsimp only [VThen, VBlock]) | refine VOps.vP (VPure.len_map TI.und' rfl rfl) ?_ | refine VOps.vP (VPure.eqi rfl rfl rfl) ?_))))
 by_cases hG : GoodG g
 ·have hol := onOf_len hG []
  have hn1 := hG.names.2.1
  have hnn : g.names.length = g.names.length := rfl
  refine VCode.cond_f rfl (decide_eq_false (by omega)) ?_
  (repeat (first | ((with_reducible refine VOps.same ?_); (first | refine VOps.vP (VPure.move rfl rfl) ?_ | refine VOps.vV (VLoad.boxA rfl rfl rfl (by rfl) (leR (by rfl)) (by decide)) ?_)) | refine VCode.seq ?_ | refine VCode.region rfl ?_ | refine VCode.skip ?_))
  refine VOps.gives rfl Try.func69 rfl (by kernel_rfl) rfl rfl rfl rfl rfl rfl rfl rfl (steps_v g w hg hw) ?_
  (repeat (first | ((with_reducible refine VOps.same ?_); (first | (refine VOps.nil ?_; try dsimp only [VThen, VBlock]) | refine VOps.vP (VPure.assign rfl rfl) ?_ | refine VOps.vP (VPure.len_map TI.und' rfl rfl) ?_ | refine VOps.vP (VPure.field_ptr rfl rfl rfl) ?_ | refine VOps.vV (VLoad.box1 rfl rfl rfl rfl (by rfl) (by decide)) ?_)) | refine VCode.seq ?_ | refine VCode.region rfl ?_))
  (refine VOps.make (f := encB) (a := false) rfl rfl (by kernel_rfl) rfl (by kernel_rfl) (by rfl) (by decide) rfl rfl ?b1 ?b2 (by rfl) ?_; (case b1 => unfold most; (first | omega | (simp only [List.length_map, List.length_append, List.length_cons, List.length_nil] at *; omega) | (simp; omega))); (case b2 => unfold most; (first | omega | (simp only [List.length_map, List.length_append, List.length_cons, List.length_nil] at *; omega) | (simp; omega))))
  (repeat (first | ((with_reducible refine VOps.same ?_); (first | (refine VOps.nil ?_; try dsimp only [VThen, VBlock]) | refine VOps.vP (VPure.move rfl rfl) ?_ | refine VOps.vP (VPure.assign rfl rfl) ?_ | refine VOps.vP (VPure.len_arr TI.und' rfl rfl rfl) ?_)) | refine VCode.seq ?_ | refine VCode.region rfl ?_ | refine VCode.block ?_))
  refine VCode.says (d := 23) (v := .val (.int .i64 (g.names.length : Int))) rfl (by simp) ?_
  refine VCode.loop (fun m st => ∃ (k : Nat) (ys : List Bool), k ≤ g.names.length ∧ m = g.names.length - k ∧ ys.length = g.names.length ∧ ys.take k = (eachOf g w soL).take k ∧ (∀ j, k ≤ j → j < g.names.length → ys[j]? = some false) ∧ st = ⟨[(24, .val (.int .i64 (k : Int))), (23, .val (.int .i64 (g.names.length : Int))), (8, .ref 1), (7, lV (stepsOf g w)), (2, .fn 48 []), (3, .ptr 0 0)], [(0, gO g), (1, .arr 4 1 (ys.map encB))], 2⟩) g.names.length ?_ ?_
  ·(refine Less.mk (l := [0, 1]) hcx ?ss ?hh rfl (by decide) rfl ⟨0, List.replicate g.names.length false, by omega, by omega, by simp, by simp, (fun j _ hj => by rw [List.getElem?_replicate, if_pos hj]), rfl⟩; (case ss => repeat (first | exact SubS.nil | refine SubS.cons rfl rfl ?_ | refine SubS.cons (ciI (by omega)) rfl ?_ | refine SubS.cons (ciB (by assumption)) rfl ?_)); (case hh => repeat (first | exact SubH.nil | refine SubH.cons rfl rfl rfl ?_)))
  rintro m st ⟨k, ys, hk, rfl, hyl, hyt, hyf, rfl⟩
  by_cases hlt : k < g.names.length
  ·have hyk := hyf k (Nat.le_refl k) hlt
   have heq := eachOf_get hG w soL hlt
   have hps := places_v (stepsOf g w) g.names.length k (by omega) (fun s hs => stepsOf_lt hs) (by have := stepsOf_len g w; omega)
   generalize plOf (stepsOf g w) g.names.length k = ps at heq hps
   have hml := mapOf_len ps
   (repeat (first | ((with_reducible refine VOps.same ?_); (first | (refine VOps.nil ?_; try dsimp only [VThen, VBlock]) | refine VOps.vP (VPure.lss rfl rfl rfl) ?_)) | refine VCode.seq ?_ | refine VCode.region rfl ?_))
   refine VCode.cond_t rfl (decide_eq_true (by omega)) ?_
   (repeat (first | ((with_reducible refine VOps.same ?_); (first | (refine VOps.nil ?_; try dsimp only [VThen, VBlock]) | refine VOps.vP (VPure.move rfl rfl) ?_ | refine VOps.vP (VPure.assign rfl rfl) ?_ | refine VOps.vP (VPure.len_map TI.und' rfl rfl) ?_ | refine VOps.vP (VPure.field_ptr rfl rfl rfl) ?_ | refine VOps.vV (VLoad.box1 rfl rfl rfl rfl (by rfl) (by decide)) ?_)) | refine VCode.seq ?_ | refine VCode.region rfl ?_ | refine VCode.block ?_ | refine VCode.skip ?_))
   (refine VOps.callL (ch := []) [] rfl Try.func70 rfl (by kernel_rfl) rfl rfl rfl rfl ?hh (by decide) rfl rfl rfl (hps) rfl (by rfl) rfl ?_; (case hh => repeat (first | exact SubH.nil | refine SubH.cons rfl rfl rfl ?_)))
   refine VOps.range rfl rfl rfl rfl rfl ?_
   (repeat (first | ((with_reducible refine VOps.same ?_); (first | (refine VOps.nil ?_; try dsimp only [VThen, VBlock])))))
   refine VCode.block ?_
   refine VCode.loop (fun m st => ∃ (S : List Nat) (zs : List Bool), m = leftN ps.length S ∧ zs.length = g.names.length ∧ zs.take k = (eachOf g w soL).take k ∧ (∀ j, k + 1 ≤ j → j < g.names.length → zs[j]? = some false) ∧ zs[k]? = some (someOf ps k soL S) ∧ st = ⟨[(33, .ref 3), (9, .val (.int .i64 (k : Int))), (24, .val (.int .i64 (k : Int))), (23, .val (.int .i64 (g.names.length : Int))), (8, .ref 1), (7, lV (stepsOf g w)), (2, .fn 48 []), (3, .ptr 0 0)], [(0, gO g), (1, .arr 4 1 (zs.map encB)), (2, .map (mapOf ps)), (3, .iter 2 (mapOf ps).length S)], 4⟩) (leftN ps.length []) ?_ ?_
   ·(refine Less.mk (l := [0, 1, 2, 3]) hcx ?ss ?hh rfl (by decide) rfl ⟨[], ys, rfl, hyl, hyt, (fun j h1 h2 => hyf j (by omega) h2), hyk, rfl⟩; (case ss => repeat (first | exact SubS.nil | refine SubS.cons rfl rfl ?_ | refine SubS.cons (ciI (by omega)) rfl ?_ | refine SubS.cons (ciB (by assumption)) rfl ?_)); (case hh => repeat (first | exact SubH.nil | refine SubH.cons rfl rfl rfl ?_)))
   rintro m st ⟨S, zs, rfl, hzl, hzt, hzf, hzk, rfl⟩
   (repeat (first | refine VCode.seq ?_ | refine VCode.region rfl ?_))
   refine VOps.next rfl rfl rfl rfl rfl rfl rfl (fun hall => ?_) (fun j key val hj hjS => ?_)
   ·rw [someOf_all (fun j hj => hall j (by rw [hml]; exact hj))] at hzk
    (repeat (first | ((with_reducible refine VOps.same ?_); (first | (refine VOps.nil ?_; try dsimp only [VThen, VBlock]) | refine VOps.vP (VPure.extract rfl rfl rfl) ?_)) | refine VCode.seq ?_))
    refine VCode.cond_f rfl rfl ?_
    (repeat (first | ((with_reducible refine VOps.same ?_); (first | (refine VOps.nil ?_; try dsimp only [VThen, VBlock]) | refine VOps.vP (VPure.move rfl rfl) ?_ | refine VOps.vP (VPure.addK rfl rfl rfl (by omega)) ?_)) | refine VCode.region rfl ?_ | refine VCode.exit ?_))
    (refine Less.mk (l := [0, 1]) hcx ?ss ?hh rfl (by decide) rfl ⟨_, ?_, k + 1, zs, by omega, rfl, hzl, ?_, hzf, rfl⟩; (case ss => repeat (first | exact SubS.nil | refine SubS.cons rfl rfl ?_ | refine SubS.cons (ciI (by omega)) rfl ?_ | refine SubS.cons (ciB (by assumption)) rfl ?_)); (case hh => repeat (first | exact SubH.nil | refine SubH.cons rfl rfl rfl ?_)))
    ·omega
    ·rw [List.take_add_one, List.take_add_one, hzt, heq, hzk]
   ·obtain ⟨p, hp, rfl, rfl⟩ := map_get hj
    have hjl := (List.getElem?_eq_some_iff.1 hp).1
    have hnx := someOf_add (a := k) (so := soL) (S := S) hp
    have hms := leftN_add hjl hjS
    obtain ⟨p1, pl, pr⟩ := p
    (repeat (first | ((with_reducible refine VOps.same ?_); (first | (refine VOps.nil ?_; try dsimp only [VThen, VBlock]) | refine VOps.vP (VPure.extract rfl rfl rfl) ?_)) | refine VCode.seq ?_))
    refine VCode.cond_t rfl rfl ?_
    (repeat (first | refine VCode.seq ?_ | refine VCode.region rfl ?_ | refine VCode.block ?_ | refine VCode.skip ?_))
    refine VOps.vv rfl (by kernel_rfl) rfl (VLoad.entry rfl rfl rfl rfl rfl hj (by decide)) ?_
    (repeat (first | ((with_reducible refine VOps.same ?_); (first | (refine VOps.nil ?_; try dsimp only [VThen, VBlock]) | refine VOps.vP (VPure.move rfl rfl) ?_ | refine VOps.vP (VPure.extract rfl rfl rfl) ?_ | refine VOps.vP (VPure.idx_arrm rfl rfl rfl rfl (by assumption)) ?_ | refine VOps.vV (VLoad.arr1m rfl rfl rfl (by rfl) (by assumption) (by rfl) rfl (by decide)) ?_ | refine VOps.alloc rfl rfl (by kernel_rfl) rfl (by kernel_rfl) rfl ?_ | refine VOps.store rfl rfl (by kernel_rfl) rfl rfl rfl rfl rfl rfl (leR (by rfl)) rfl ?_)) | refine VCode.region rfl ?_))
    refine VOps.bool (d := 44) rfl (fun b1 => ?_) (fun b1 => ?_)
    ·rw [b1, Bool.true_or] at hnx
     (repeat (first | ((with_reducible refine VOps.same ?_); (first | refine VOps.vP (VPure.idx_arrm rfl rfl rfl rfl (by assumption)) ?_ | refine VOps.vP (VPure.pick_t rfl rfl rfl) ?_ | refine VOps.passv rfl (by kernel_rfl) rfl ?_))))
     refine VOps.store_arrm (u' := true ) (ys :=  zs.set k true) rfl rfl (by kernel_rfl) rfl rfl rfl rfl (by rfl) (by assumption) rfl rfl (by first | decide | exact Nat.le_of_ble_eq_true (by rfl)) (by rfl) (by rfl) ?_
     (repeat (first | ((with_reducible refine VOps.same ?_); (first | (refine VOps.nil ?_; try dsimp only [VThen, VBlock])))))
     (refine Less.mk (l := [0, 1, 2, 3]) hcx ?ss ?hh rfl (by decide) rfl ⟨_, ?_, S ++ [j], zs.set k true, rfl, by rw [List.length_set]; exact hzl, by rw [set_take]; exact hzt, (fun i h1 h2 => by rw [List.getElem?_set, if_neg (by omega)]; exact hzf i h1 h2), by rw [List.getElem?_set, if_pos rfl, if_pos (by omega), hnx], rfl⟩; (case ss => repeat (first | exact SubS.nil | refine SubS.cons rfl rfl ?_ | refine SubS.cons (ciI (by omega)) rfl ?_ | refine SubS.cons (ciB (by assumption)) rfl ?_)); (case hh => repeat (first | exact SubH.nil | refine SubH.cons rfl rfl rfl ?_)))
     omega
    ·rw [b1, Bool.false_or] at hnx
     (repeat (first | ((with_reducible refine VOps.same ?_); (first | refine VOps.vP (VPure.move rfl rfl) ?_ | refine VOps.vP (VPure.field_ptr rfl rfl rfl) ?_ | refine VOps.vV (VLoad.box1 rfl rfl rfl rfl (by rfl) (by decide)) ?_ | refine VOps.vP (VPure.eqi rfl rfl rfl) ?_))))
     refine VOps.bool (d := 49) rfl (fun b2 => ?_) (fun b2 => ?_)
     ·rw [decide_eq_true (show ((p1, pl, pr) : Pl).1 = k by have := of_decide_eq_true b2; show p1 = k; omega), Bool.true_and] at hnx
      (repeat (first | ((with_reducible refine VOps.same ?_); (first | refine VOps.vP (VPure.move rfl rfl) ?_ | refine VOps.vV (VLoad.boxA rfl rfl rfl (by rfl) (leR (by rfl)) (by decide)) ?_))))
      refine VOps.pure rfl Try.func48 rfl (by kernel_rfl) rfl rfl rfl rfl rfl rfl rfl (soL_v (p1, pl, pr)) ?_
      (repeat (first | ((with_reducible refine VOps.same ?_); (first | refine VOps.vP (VPure.idx_arrm rfl rfl rfl rfl (by assumption)) ?_ | refine VOps.vP (VPure.pick_t rfl rfl rfl) ?_ | refine VOps.vP (VPure.pick_f rfl rfl rfl) ?_))))
      refine VOps.store_arrm (u' := (soL (p1, pl, pr)) ) (ys :=  zs.set k (soL (p1, pl, pr))) rfl rfl (by kernel_rfl) rfl rfl rfl rfl (by rfl) (by assumption) rfl rfl (by first | decide | exact Nat.le_of_ble_eq_true (by rfl)) (by rfl) (by rfl) ?_
      (repeat (first | ((with_reducible refine VOps.same ?_); (first | (refine VOps.nil ?_; try dsimp only [VThen, VBlock])))))
      (refine Less.mk (l := [0, 1, 2, 3]) hcx ?ss ?hh rfl (by decide) rfl ⟨_, ?_, S ++ [j], zs.set k (soL (p1, pl, pr)), rfl, by rw [List.length_set]; exact hzl, by rw [set_take]; exact hzt, (fun i h1 h2 => by rw [List.getElem?_set, if_neg (by omega)]; exact hzf i h1 h2), by rw [List.getElem?_set, if_pos rfl, if_pos (by omega), hnx], rfl⟩; (case ss => repeat (first | exact SubS.nil | refine SubS.cons rfl rfl ?_ | refine SubS.cons (ciI (by omega)) rfl ?_ | refine SubS.cons (ciB (by assumption)) rfl ?_)); (case hh => repeat (first | exact SubH.nil | refine SubH.cons rfl rfl rfl ?_)))
      omega
     ·rw [decide_eq_false (show ¬ ((p1, pl, pr) : Pl).1 = k by have := of_decide_eq_false b2; show ¬ p1 = k; omega), Bool.false_and] at hnx
      (repeat (first | ((with_reducible refine VOps.same ?_); (first | refine VOps.vP (VPure.idx_arrm rfl rfl rfl rfl (by assumption)) ?_ | refine VOps.vP (VPure.pick_f rfl rfl rfl) ?_ | refine VOps.passv rfl (by kernel_rfl) rfl ?_))))
      refine VOps.store_arrm (u' := false ) (ys :=  zs.set k false) rfl rfl (by kernel_rfl) rfl rfl rfl rfl (by rfl) (by assumption) rfl rfl (by first | decide | exact Nat.le_of_ble_eq_true (by rfl)) (by rfl) (by rfl) ?_
      (repeat (first | ((with_reducible refine VOps.same ?_); (first | (refine VOps.nil ?_; try dsimp only [VThen, VBlock])))))
      (refine Less.mk (l := [0, 1, 2, 3]) hcx ?ss ?hh rfl (by decide) rfl ⟨_, ?_, S ++ [j], zs.set k false, rfl, by rw [List.length_set]; exact hzl, by rw [set_take]; exact hzt, (fun i h1 h2 => by rw [List.getElem?_set, if_neg (by omega)]; exact hzf i h1 h2), by rw [List.getElem?_set, if_pos rfl, if_pos (by omega), hnx], rfl⟩; (case ss => repeat (first | exact SubS.nil | refine SubS.cons rfl rfl ?_ | refine SubS.cons (ciI (by omega)) rfl ?_ | refine SubS.cons (ciB (by assumption)) rfl ?_)); (case hh => repeat (first | exact SubH.nil | refine SubH.cons rfl rfl rfl ?_)))
      omega
  ·(repeat (first | ((with_reducible refine VOps.same ?_); (first | (refine VOps.nil ?_; try dsimp only [VThen, VBlock]) | refine VOps.vP (VPure.lss rfl rfl rfl) ?_)) | refine VCode.seq ?_ | refine VCode.region rfl ?_))
   refine VCode.cond_f rfl (decide_eq_false (by omega)) ?_
   (repeat (first | ((with_reducible refine VOps.same ?_); (first | (refine VOps.nil ?_; try dsimp only [VThen, VBlock]) | refine VOps.vP (VPure.move rfl rfl) ?_ | refine VOps.vP (VPure.assign rfl rfl) ?_)) | refine VCode.seq ?_ | refine VCode.region rfl ?_ | refine VCode.exit ?_))
   refine VCode.freeze (id := 1) rfl ?_
   refine VCode.retD rfl rfl (.tmp rfl .nil) ?_
   have : ys = eachOf g w soL := by
    rw [List.take_of_length_le (by omega), List.take_of_length_le (by rw [eachOf_len hG]; omega)] at hyt
    exact hyt
   rw [this]; rfl
 ·have he : eachOf g w soL = [] := by unfold eachOf; rw [if_neg hG]
  have ho : onOf g [] = [] := by unfold onOf; rw [if_neg hG]
  refine VCode.cond_t rfl (by rw [ho]; rfl) ?_
  (repeat (first | ((with_reducible refine VOps.same ?_); (first | (refine VOps.nil ?_; try dsimp only [VThen, VBlock]) | refine VOps.vP (VPure.assign rfl rfl) ?_)) | refine VCode.seq ?_ | refine VCode.region rfl ?_))
  refine VCode.nilS 6 1 rfl ?_
  refine VCode.retD rfl rfl (.tmp rfl .nil) ?_
  rw [he]; rfl
theorem left_v (g : Gr) (w : List Spot) (hg : Sized g) (hw : w.length ≤ 1000000) : VCalls Try.prog 30 [gV g, sV w] [] 0 (Gives (.sl 1 ((eachOf g w soL).map encB))) := by
 refine VCalls.enterD (n := 8) Try.func30 rfl rfl (by simp) rfl (fun cx hcx => ?_)
 (repeat (first | ((with_reducible refine VOps.same ?_); (first | (refine VOps.nil ?_; try dsimp only [VThen, VBlock]) | refine VOps.vP (VPure.move rfl rfl) ?_ | refine VOps.vP (VPure.assign rfl rfl) ?_ | refine VOps.vV (VLoad.boxA rfl rfl rfl (by rfl) (leR (by rfl)) (by decide)) ?_ | refine VOps.box rfl rfl (by kernel_rfl) rfl rfl rfl rfl ?_)) | refine VCode.seq ?_ | refine VCode.region rfl ?_))
 refine VOps.gives rfl Try.func47 rfl (by kernel_rfl) rfl rfl rfl rfl rfl rfl rfl rfl (eachL_v g w hg hw) ?_
 (repeat (first | ((with_reducible refine VOps.same ?_); (first | (refine VOps.nil ?_; try dsimp only [VThen, VBlock]) | refine VOps.vP (VPure.assign rfl rfl) ?_))))
 refine VCode.retD rfl rfl (.tmp rfl .nil) ?_
 rfl
set_option maxRecDepth 20000 in
set_option maxHeartbeats 8000000 in
theorem eachR_v (g : Gr) (w : List Spot) (hg : Sized g) (hw : w.length ≤ 1000000) : VCalls Try.prog 47 [gV g, sV w, .fn 50 []] [] 0 (Gives (.sl 1 ((eachOf g w soR).map encB))) := by
 have hn := hg.names
 refine VCalls.enterD (n := 58) Try.func47 rfl rfl (by simp) rfl (fun cx hcx => ?_)
 (repeat (first | ((with_reducible refine VOps.same ?_); (first | (refine VOps.nil ?_; try dsimp only [VThen, VBlock]) | refine VOps.vP (VPure.assign rfl rfl) ?_ | refine VOps.vV (VLoad.boxA rfl rfl rfl (by rfl) (leR (by rfl)) (by decide)) ?_ | refine VOps.box rfl rfl (by kernel_rfl) rfl rfl rfl rfl ?_)) | refine VCode.seq ?_ | refine VCode.region rfl ?_))
 refine VOps.gives rfl Try.func14 rfl (by kernel_rfl) rfl rfl rfl rfl rfl rfl rfl rfl (nil2 (on_v g [] hg (by simp))) ?_
 (repeat (first | ((with_reducible refine VOps.same ?_); (first | (refine VOps.nil ?_; try dsimp only [VThen, VBlock]) | refine VOps.vP (VPure.len_map TI.und' rfl rfl) ?_ | refine VOps.vP (VPure.eqi rfl rfl rfl) ?_))))
 by_cases hG : GoodG g
 ·have hol := onOf_len hG []
  have hn1 := hG.names.2.1
  have hnn : g.names.length = g.names.length := rfl
  refine VCode.cond_f rfl (decide_eq_false (by omega)) ?_
  (repeat (first | ((with_reducible refine VOps.same ?_); (first | refine VOps.vP (VPure.move rfl rfl) ?_ | refine VOps.vV (VLoad.boxA rfl rfl rfl (by rfl) (leR (by rfl)) (by decide)) ?_)) | refine VCode.seq ?_ | refine VCode.region rfl ?_ | refine VCode.skip ?_))
  refine VOps.gives rfl Try.func69 rfl (by kernel_rfl) rfl rfl rfl rfl rfl rfl rfl rfl (steps_v g w hg hw) ?_
  (repeat (first | ((with_reducible refine VOps.same ?_); (first | (refine VOps.nil ?_; try dsimp only [VThen, VBlock]) | refine VOps.vP (VPure.assign rfl rfl) ?_ | refine VOps.vP (VPure.len_map TI.und' rfl rfl) ?_ | refine VOps.vP (VPure.field_ptr rfl rfl rfl) ?_ | refine VOps.vV (VLoad.box1 rfl rfl rfl rfl (by rfl) (by decide)) ?_)) | refine VCode.seq ?_ | refine VCode.region rfl ?_))
  (refine VOps.make (f := encB) (a := false) rfl rfl (by kernel_rfl) rfl (by kernel_rfl) (by rfl) (by decide) rfl rfl ?b1 ?b2 (by rfl) ?_; (case b1 => unfold most; (first | omega | (simp only [List.length_map, List.length_append, List.length_cons, List.length_nil] at *; omega) | (simp; omega))); (case b2 => unfold most; (first | omega | (simp only [List.length_map, List.length_append, List.length_cons, List.length_nil] at *; omega) | (simp; omega))))
  (repeat (first | ((with_reducible refine VOps.same ?_); (first | (refine VOps.nil ?_; try dsimp only [VThen, VBlock]) | refine VOps.vP (VPure.move rfl rfl) ?_ | refine VOps.vP (VPure.assign rfl rfl) ?_ | refine VOps.vP (VPure.len_arr TI.und' rfl rfl rfl) ?_)) | refine VCode.seq ?_ | refine VCode.region rfl ?_ | refine VCode.block ?_))
  refine VCode.says (d := 23) (v := .val (.int .i64 (g.names.length : Int))) rfl (by simp) ?_
  refine VCode.loop (fun m st => ∃ (k : Nat) (ys : List Bool), k ≤ g.names.length ∧ m = g.names.length - k ∧ ys.length = g.names.length ∧ ys.take k = (eachOf g w soR).take k ∧ (∀ j, k ≤ j → j < g.names.length → ys[j]? = some false) ∧ st = ⟨[(24, .val (.int .i64 (k : Int))), (23, .val (.int .i64 (g.names.length : Int))), (8, .ref 1), (7, lV (stepsOf g w)), (2, .fn 50 []), (3, .ptr 0 0)], [(0, gO g), (1, .arr 4 1 (ys.map encB))], 2⟩) g.names.length ?_ ?_
  ·(refine Less.mk (l := [0, 1]) hcx ?ss ?hh rfl (by decide) rfl ⟨0, List.replicate g.names.length false, by omega, by omega, by simp, by simp, (fun j _ hj => by rw [List.getElem?_replicate, if_pos hj]), rfl⟩; (case ss => repeat (first | exact SubS.nil | refine SubS.cons rfl rfl ?_ | refine SubS.cons (ciI (by omega)) rfl ?_ | refine SubS.cons (ciB (by assumption)) rfl ?_)); (case hh => repeat (first | exact SubH.nil | refine SubH.cons rfl rfl rfl ?_)))
  rintro m st ⟨k, ys, hk, rfl, hyl, hyt, hyf, rfl⟩
  by_cases hlt : k < g.names.length
  ·have hyk := hyf k (Nat.le_refl k) hlt
   have heq := eachOf_get hG w soR hlt
   have hps := places_v (stepsOf g w) g.names.length k (by omega) (fun s hs => stepsOf_lt hs) (by have := stepsOf_len g w; omega)
   generalize plOf (stepsOf g w) g.names.length k = ps at heq hps
   have hml := mapOf_len ps
   (repeat (first | ((with_reducible refine VOps.same ?_); (first | (refine VOps.nil ?_; try dsimp only [VThen, VBlock]) | refine VOps.vP (VPure.lss rfl rfl rfl) ?_)) | refine VCode.seq ?_ | refine VCode.region rfl ?_))
   refine VCode.cond_t rfl (decide_eq_true (by omega)) ?_
   (repeat (first | ((with_reducible refine VOps.same ?_); (first | (refine VOps.nil ?_; try dsimp only [VThen, VBlock]) | refine VOps.vP (VPure.move rfl rfl) ?_ | refine VOps.vP (VPure.assign rfl rfl) ?_ | refine VOps.vP (VPure.len_map TI.und' rfl rfl) ?_ | refine VOps.vP (VPure.field_ptr rfl rfl rfl) ?_ | refine VOps.vV (VLoad.box1 rfl rfl rfl rfl (by rfl) (by decide)) ?_)) | refine VCode.seq ?_ | refine VCode.region rfl ?_ | refine VCode.block ?_ | refine VCode.skip ?_))
   (refine VOps.callL (ch := []) [] rfl Try.func70 rfl (by kernel_rfl) rfl rfl rfl rfl ?hh (by decide) rfl rfl rfl (hps) rfl (by rfl) rfl ?_; (case hh => repeat (first | exact SubH.nil | refine SubH.cons rfl rfl rfl ?_)))
   refine VOps.range rfl rfl rfl rfl rfl ?_
   (repeat (first | ((with_reducible refine VOps.same ?_); (first | (refine VOps.nil ?_; try dsimp only [VThen, VBlock])))))
   refine VCode.block ?_
   refine VCode.loop (fun m st => ∃ (S : List Nat) (zs : List Bool), m = leftN ps.length S ∧ zs.length = g.names.length ∧ zs.take k = (eachOf g w soR).take k ∧ (∀ j, k + 1 ≤ j → j < g.names.length → zs[j]? = some false) ∧ zs[k]? = some (someOf ps k soR S) ∧ st = ⟨[(33, .ref 3), (9, .val (.int .i64 (k : Int))), (24, .val (.int .i64 (k : Int))), (23, .val (.int .i64 (g.names.length : Int))), (8, .ref 1), (7, lV (stepsOf g w)), (2, .fn 50 []), (3, .ptr 0 0)], [(0, gO g), (1, .arr 4 1 (zs.map encB)), (2, .map (mapOf ps)), (3, .iter 2 (mapOf ps).length S)], 4⟩) (leftN ps.length []) ?_ ?_
   ·(refine Less.mk (l := [0, 1, 2, 3]) hcx ?ss ?hh rfl (by decide) rfl ⟨[], ys, rfl, hyl, hyt, (fun j h1 h2 => hyf j (by omega) h2), hyk, rfl⟩; (case ss => repeat (first | exact SubS.nil | refine SubS.cons rfl rfl ?_ | refine SubS.cons (ciI (by omega)) rfl ?_ | refine SubS.cons (ciB (by assumption)) rfl ?_)); (case hh => repeat (first | exact SubH.nil | refine SubH.cons rfl rfl rfl ?_)))
   rintro m st ⟨S, zs, rfl, hzl, hzt, hzf, hzk, rfl⟩
   (repeat (first | refine VCode.seq ?_ | refine VCode.region rfl ?_))
   refine VOps.next rfl rfl rfl rfl rfl rfl rfl (fun hall => ?_) (fun j key val hj hjS => ?_)
   ·rw [someOf_all (fun j hj => hall j (by rw [hml]; exact hj))] at hzk
    (repeat (first | ((with_reducible refine VOps.same ?_); (first | (refine VOps.nil ?_; try dsimp only [VThen, VBlock]) | refine VOps.vP (VPure.extract rfl rfl rfl) ?_)) | refine VCode.seq ?_))
    refine VCode.cond_f rfl rfl ?_
    (repeat (first | ((with_reducible refine VOps.same ?_); (first | (refine VOps.nil ?_; try dsimp only [VThen, VBlock]) | refine VOps.vP (VPure.move rfl rfl) ?_ | refine VOps.vP (VPure.addK rfl rfl rfl (by omega)) ?_)) | refine VCode.region rfl ?_ | refine VCode.exit ?_))
    (refine Less.mk (l := [0, 1]) hcx ?ss ?hh rfl (by decide) rfl ⟨_, ?_, k + 1, zs, by omega, rfl, hzl, ?_, hzf, rfl⟩; (case ss => repeat (first | exact SubS.nil | refine SubS.cons rfl rfl ?_ | refine SubS.cons (ciI (by omega)) rfl ?_ | refine SubS.cons (ciB (by assumption)) rfl ?_)); (case hh => repeat (first | exact SubH.nil | refine SubH.cons rfl rfl rfl ?_)))
    ·omega
    ·rw [List.take_add_one, List.take_add_one, hzt, heq, hzk]
   ·obtain ⟨p, hp, rfl, rfl⟩ := map_get hj
    have hjl := (List.getElem?_eq_some_iff.1 hp).1
    have hnx := someOf_add (a := k) (so := soR) (S := S) hp
    have hms := leftN_add hjl hjS
    obtain ⟨p1, pl, pr⟩ := p
    (repeat (first | ((with_reducible refine VOps.same ?_); (first | (refine VOps.nil ?_; try dsimp only [VThen, VBlock]) | refine VOps.vP (VPure.extract rfl rfl rfl) ?_)) | refine VCode.seq ?_))
    refine VCode.cond_t rfl rfl ?_
    (repeat (first | refine VCode.seq ?_ | refine VCode.region rfl ?_ | refine VCode.block ?_ | refine VCode.skip ?_))
    refine VOps.vv rfl (by kernel_rfl) rfl (VLoad.entry rfl rfl rfl rfl rfl hj (by decide)) ?_
    (repeat (first | ((with_reducible refine VOps.same ?_); (first | (refine VOps.nil ?_; try dsimp only [VThen, VBlock]) | refine VOps.vP (VPure.move rfl rfl) ?_ | refine VOps.vP (VPure.extract rfl rfl rfl) ?_ | refine VOps.vP (VPure.idx_arrm rfl rfl rfl rfl (by assumption)) ?_ | refine VOps.vV (VLoad.arr1m rfl rfl rfl (by rfl) (by assumption) (by rfl) rfl (by decide)) ?_ | refine VOps.alloc rfl rfl (by kernel_rfl) rfl (by kernel_rfl) rfl ?_ | refine VOps.store rfl rfl (by kernel_rfl) rfl rfl rfl rfl rfl rfl (leR (by rfl)) rfl ?_)) | refine VCode.region rfl ?_))
    refine VOps.bool (d := 44) rfl (fun b1 => ?_) (fun b1 => ?_)
    ·rw [b1, Bool.true_or] at hnx
     (repeat (first | ((with_reducible refine VOps.same ?_); (first | refine VOps.vP (VPure.idx_arrm rfl rfl rfl rfl (by assumption)) ?_ | refine VOps.vP (VPure.pick_t rfl rfl rfl) ?_ | refine VOps.passv rfl (by kernel_rfl) rfl ?_))))
     refine VOps.store_arrm (u' := true ) (ys :=  zs.set k true) rfl rfl (by kernel_rfl) rfl rfl rfl rfl (by rfl) (by assumption) rfl rfl (by first | decide | exact Nat.le_of_ble_eq_true (by rfl)) (by rfl) (by rfl) ?_
     (repeat (first | ((with_reducible refine VOps.same ?_); (first | (refine VOps.nil ?_; try dsimp only [VThen, VBlock])))))
     (refine Less.mk (l := [0, 1, 2, 3]) hcx ?ss ?hh rfl (by decide) rfl ⟨_, ?_, S ++ [j], zs.set k true, rfl, by rw [List.length_set]; exact hzl, by rw [set_take]; exact hzt, (fun i h1 h2 => by rw [List.getElem?_set, if_neg (by omega)]; exact hzf i h1 h2), by rw [List.getElem?_set, if_pos rfl, if_pos (by omega), hnx], rfl⟩; (case ss => repeat (first | exact SubS.nil | refine SubS.cons rfl rfl ?_ | refine SubS.cons (ciI (by omega)) rfl ?_ | refine SubS.cons (ciB (by assumption)) rfl ?_)); (case hh => repeat (first | exact SubH.nil | refine SubH.cons rfl rfl rfl ?_)))
     omega
    ·rw [b1, Bool.false_or] at hnx
     (repeat (first | ((with_reducible refine VOps.same ?_); (first | refine VOps.vP (VPure.move rfl rfl) ?_ | refine VOps.vP (VPure.field_ptr rfl rfl rfl) ?_ | refine VOps.vV (VLoad.box1 rfl rfl rfl rfl (by rfl) (by decide)) ?_ | refine VOps.vP (VPure.eqi rfl rfl rfl) ?_))))
     refine VOps.bool (d := 49) rfl (fun b2 => ?_) (fun b2 => ?_)
     ·rw [decide_eq_true (show ((p1, pl, pr) : Pl).1 = k by have := of_decide_eq_true b2; show p1 = k; omega), Bool.true_and] at hnx
      (repeat (first | ((with_reducible refine VOps.same ?_); (first | refine VOps.vP (VPure.move rfl rfl) ?_ | refine VOps.vV (VLoad.boxA rfl rfl rfl (by rfl) (leR (by rfl)) (by decide)) ?_))))
      refine VOps.pure rfl Try.func50 rfl (by kernel_rfl) rfl rfl rfl rfl rfl rfl rfl (soR_v (p1, pl, pr)) ?_
      (repeat (first | ((with_reducible refine VOps.same ?_); (first | refine VOps.vP (VPure.idx_arrm rfl rfl rfl rfl (by assumption)) ?_ | refine VOps.vP (VPure.pick_t rfl rfl rfl) ?_ | refine VOps.vP (VPure.pick_f rfl rfl rfl) ?_))))
      refine VOps.store_arrm (u' := (soR (p1, pl, pr)) ) (ys :=  zs.set k (soR (p1, pl, pr))) rfl rfl (by kernel_rfl) rfl rfl rfl rfl (by rfl) (by assumption) rfl rfl (by first | decide | exact Nat.le_of_ble_eq_true (by rfl)) (by rfl) (by rfl) ?_
      (repeat (first | ((with_reducible refine VOps.same ?_); (first | (refine VOps.nil ?_; try dsimp only [VThen, VBlock])))))
      (refine Less.mk (l := [0, 1, 2, 3]) hcx ?ss ?hh rfl (by decide) rfl ⟨_, ?_, S ++ [j], zs.set k (soR (p1, pl, pr)), rfl, by rw [List.length_set]; exact hzl, by rw [set_take]; exact hzt, (fun i h1 h2 => by rw [List.getElem?_set, if_neg (by omega)]; exact hzf i h1 h2), by rw [List.getElem?_set, if_pos rfl, if_pos (by omega), hnx], rfl⟩; (case ss => repeat (first | exact SubS.nil | refine SubS.cons rfl rfl ?_ | refine SubS.cons (ciI (by omega)) rfl ?_ | refine SubS.cons (ciB (by assumption)) rfl ?_)); (case hh => repeat (first | exact SubH.nil | refine SubH.cons rfl rfl rfl ?_)))
      omega
     ·rw [decide_eq_false (show ¬ ((p1, pl, pr) : Pl).1 = k by have := of_decide_eq_false b2; show ¬ p1 = k; omega), Bool.false_and] at hnx
      (repeat (first | ((with_reducible refine VOps.same ?_); (first | refine VOps.vP (VPure.idx_arrm rfl rfl rfl rfl (by assumption)) ?_ | refine VOps.vP (VPure.pick_f rfl rfl rfl) ?_ | refine VOps.passv rfl (by kernel_rfl) rfl ?_))))
      refine VOps.store_arrm (u' := false ) (ys :=  zs.set k false) rfl rfl (by kernel_rfl) rfl rfl rfl rfl (by rfl) (by assumption) rfl rfl (by first | decide | exact Nat.le_of_ble_eq_true (by rfl)) (by rfl) (by rfl) ?_
      (repeat (first | ((with_reducible refine VOps.same ?_); (first | (refine VOps.nil ?_; try dsimp only [VThen, VBlock])))))
      (refine Less.mk (l := [0, 1, 2, 3]) hcx ?ss ?hh rfl (by decide) rfl ⟨_, ?_, S ++ [j], zs.set k false, rfl, by rw [List.length_set]; exact hzl, by rw [set_take]; exact hzt, (fun i h1 h2 => by rw [List.getElem?_set, if_neg (by omega)]; exact hzf i h1 h2), by rw [List.getElem?_set, if_pos rfl, if_pos (by omega), hnx], rfl⟩; (case ss => repeat (first | exact SubS.nil | refine SubS.cons rfl rfl ?_ | refine SubS.cons (ciI (by omega)) rfl ?_ | refine SubS.cons (ciB (by assumption)) rfl ?_)); (case hh => repeat (first | exact SubH.nil | refine SubH.cons rfl rfl rfl ?_)))
      omega
  ·(repeat (first | ((with_reducible refine VOps.same ?_); (first | (refine VOps.nil ?_; try dsimp only [VThen, VBlock]) | refine VOps.vP (VPure.lss rfl rfl rfl) ?_)) | refine VCode.seq ?_ | refine VCode.region rfl ?_))
   refine VCode.cond_f rfl (decide_eq_false (by omega)) ?_
   (repeat (first | ((with_reducible refine VOps.same ?_); (first | (refine VOps.nil ?_; try dsimp only [VThen, VBlock]) | refine VOps.vP (VPure.move rfl rfl) ?_ | refine VOps.vP (VPure.assign rfl rfl) ?_)) | refine VCode.seq ?_ | refine VCode.region rfl ?_ | refine VCode.exit ?_))
   refine VCode.freeze (id := 1) rfl ?_
   refine VCode.retD rfl rfl (.tmp rfl .nil) ?_
   have : ys = eachOf g w soR := by
    rw [List.take_of_length_le (by omega), List.take_of_length_le (by rw [eachOf_len hG]; omega)] at hyt
    exact hyt
   rw [this]; rfl
 ·have he : eachOf g w soR = [] := by unfold eachOf; rw [if_neg hG]
  have ho : onOf g [] = [] := by unfold onOf; rw [if_neg hG]
  refine VCode.cond_t rfl (by rw [ho]; rfl) ?_
  (repeat (first | ((with_reducible refine VOps.same ?_); (first | (refine VOps.nil ?_; try dsimp only [VThen, VBlock]) | refine VOps.vP (VPure.assign rfl rfl) ?_)) | refine VCode.seq ?_ | refine VCode.region rfl ?_))
  refine VCode.nilS 6 1 rfl ?_
  refine VCode.retD rfl rfl (.tmp rfl .nil) ?_
  rw [he]; rfl
theorem right_v (g : Gr) (w : List Spot) (hg : Sized g) (hw : w.length ≤ 1000000) : VCalls Try.prog 32 [gV g, sV w] [] 0 (Gives (.sl 1 ((eachOf g w soR).map encB))) := by
 refine VCalls.enterD (n := 8) Try.func32 rfl rfl (by simp) rfl (fun cx hcx => ?_)
 (repeat (first | ((with_reducible refine VOps.same ?_); (first | (refine VOps.nil ?_; try dsimp only [VThen, VBlock]) | refine VOps.vP (VPure.move rfl rfl) ?_ | refine VOps.vP (VPure.assign rfl rfl) ?_ | refine VOps.vV (VLoad.boxA rfl rfl rfl (by rfl) (leR (by rfl)) (by decide)) ?_ | refine VOps.box rfl rfl (by kernel_rfl) rfl rfl rfl rfl ?_)) | refine VCode.seq ?_ | refine VCode.region rfl ?_))
 refine VOps.gives rfl Try.func47 rfl (by kernel_rfl) rfl rfl rfl rfl rfl rfl rfl rfl (eachR_v g w hg hw) ?_
 (repeat (first | ((with_reducible refine VOps.same ?_); (first | (refine VOps.nil ?_; try dsimp only [VThen, VBlock]) | refine VOps.vP (VPure.assign rfl rfl) ?_))))
 refine VCode.retD rfl rfl (.tmp rfl .nil) ?_
 rfl
set_option maxRecDepth 20000 in
set_option maxHeartbeats 8000000 in
theorem eachB_v (g : Gr) (w : List Spot) (hg : Sized g) (hw : w.length ≤ 1000000) : VCalls Try.prog 47 [gV g, sV w, .fn 51 []] [] 0 (Gives (.sl 1 ((eachOf g w soB).map encB))) := by
 have hn := hg.names
 refine VCalls.enterD (n := 58) Try.func47 rfl rfl (by simp) rfl (fun cx hcx => ?_)
 (repeat (first | ((with_reducible refine VOps.same ?_); (first | (refine VOps.nil ?_; try dsimp only [VThen, VBlock]) | refine VOps.vP (VPure.assign rfl rfl) ?_ | refine VOps.vV (VLoad.boxA rfl rfl rfl (by rfl) (leR (by rfl)) (by decide)) ?_ | refine VOps.box rfl rfl (by kernel_rfl) rfl rfl rfl rfl ?_)) | refine VCode.seq ?_ | refine VCode.region rfl ?_))
 refine VOps.gives rfl Try.func14 rfl (by kernel_rfl) rfl rfl rfl rfl rfl rfl rfl rfl (nil2 (on_v g [] hg (by simp))) ?_
 (repeat (first | ((with_reducible refine VOps.same ?_); (first | (refine VOps.nil ?_; try dsimp only [VThen, VBlock]) | refine VOps.vP (VPure.len_map TI.und' rfl rfl) ?_ | refine VOps.vP (VPure.eqi rfl rfl rfl) ?_))))
 by_cases hG : GoodG g
 ·have hol := onOf_len hG []
  have hn1 := hG.names.2.1
  have hnn : g.names.length = g.names.length := rfl
  refine VCode.cond_f rfl (decide_eq_false (by omega)) ?_
  (repeat (first | ((with_reducible refine VOps.same ?_); (first | refine VOps.vP (VPure.move rfl rfl) ?_ | refine VOps.vV (VLoad.boxA rfl rfl rfl (by rfl) (leR (by rfl)) (by decide)) ?_)) | refine VCode.seq ?_ | refine VCode.region rfl ?_ | refine VCode.skip ?_))
  refine VOps.gives rfl Try.func69 rfl (by kernel_rfl) rfl rfl rfl rfl rfl rfl rfl rfl (steps_v g w hg hw) ?_
  (repeat (first | ((with_reducible refine VOps.same ?_); (first | (refine VOps.nil ?_; try dsimp only [VThen, VBlock]) | refine VOps.vP (VPure.assign rfl rfl) ?_ | refine VOps.vP (VPure.len_map TI.und' rfl rfl) ?_ | refine VOps.vP (VPure.field_ptr rfl rfl rfl) ?_ | refine VOps.vV (VLoad.box1 rfl rfl rfl rfl (by rfl) (by decide)) ?_)) | refine VCode.seq ?_ | refine VCode.region rfl ?_))
  (refine VOps.make (f := encB) (a := false) rfl rfl (by kernel_rfl) rfl (by kernel_rfl) (by rfl) (by decide) rfl rfl ?b1 ?b2 (by rfl) ?_; (case b1 => unfold most; (first | omega | (simp only [List.length_map, List.length_append, List.length_cons, List.length_nil] at *; omega) | (simp; omega))); (case b2 => unfold most; (first | omega | (simp only [List.length_map, List.length_append, List.length_cons, List.length_nil] at *; omega) | (simp; omega))))
  (repeat (first | ((with_reducible refine VOps.same ?_); (first | (refine VOps.nil ?_; try dsimp only [VThen, VBlock]) | refine VOps.vP (VPure.move rfl rfl) ?_ | refine VOps.vP (VPure.assign rfl rfl) ?_ | refine VOps.vP (VPure.len_arr TI.und' rfl rfl rfl) ?_)) | refine VCode.seq ?_ | refine VCode.region rfl ?_ | refine VCode.block ?_))
  refine VCode.says (d := 23) (v := .val (.int .i64 (g.names.length : Int))) rfl (by simp) ?_
  refine VCode.loop (fun m st => ∃ (k : Nat) (ys : List Bool), k ≤ g.names.length ∧ m = g.names.length - k ∧ ys.length = g.names.length ∧ ys.take k = (eachOf g w soB).take k ∧ (∀ j, k ≤ j → j < g.names.length → ys[j]? = some false) ∧ st = ⟨[(24, .val (.int .i64 (k : Int))), (23, .val (.int .i64 (g.names.length : Int))), (8, .ref 1), (7, lV (stepsOf g w)), (2, .fn 51 []), (3, .ptr 0 0)], [(0, gO g), (1, .arr 4 1 (ys.map encB))], 2⟩) g.names.length ?_ ?_
  ·(refine Less.mk (l := [0, 1]) hcx ?ss ?hh rfl (by decide) rfl ⟨0, List.replicate g.names.length false, by omega, by omega, by simp, by simp, (fun j _ hj => by rw [List.getElem?_replicate, if_pos hj]), rfl⟩; (case ss => repeat (first | exact SubS.nil | refine SubS.cons rfl rfl ?_ | refine SubS.cons (ciI (by omega)) rfl ?_ | refine SubS.cons (ciB (by assumption)) rfl ?_)); (case hh => repeat (first | exact SubH.nil | refine SubH.cons rfl rfl rfl ?_)))
  rintro m st ⟨k, ys, hk, rfl, hyl, hyt, hyf, rfl⟩
  by_cases hlt : k < g.names.length
  ·have hyk := hyf k (Nat.le_refl k) hlt
   have heq := eachOf_get hG w soB hlt
   have hps := places_v (stepsOf g w) g.names.length k (by omega) (fun s hs => stepsOf_lt hs) (by have := stepsOf_len g w; omega)
   generalize plOf (stepsOf g w) g.names.length k = ps at heq hps
   have hml := mapOf_len ps
   (repeat (first | ((with_reducible refine VOps.same ?_); (first | (refine VOps.nil ?_; try dsimp only [VThen, VBlock]) | refine VOps.vP (VPure.lss rfl rfl rfl) ?_)) | refine VCode.seq ?_ | refine VCode.region rfl ?_))
   refine VCode.cond_t rfl (decide_eq_true (by omega)) ?_
   (repeat (first | ((with_reducible refine VOps.same ?_); (first | (refine VOps.nil ?_; try dsimp only [VThen, VBlock]) | refine VOps.vP (VPure.move rfl rfl) ?_ | refine VOps.vP (VPure.assign rfl rfl) ?_ | refine VOps.vP (VPure.len_map TI.und' rfl rfl) ?_ | refine VOps.vP (VPure.field_ptr rfl rfl rfl) ?_ | refine VOps.vV (VLoad.box1 rfl rfl rfl rfl (by rfl) (by decide)) ?_)) | refine VCode.seq ?_ | refine VCode.region rfl ?_ | refine VCode.block ?_ | refine VCode.skip ?_))
   (refine VOps.callL (ch := []) [] rfl Try.func70 rfl (by kernel_rfl) rfl rfl rfl rfl ?hh (by decide) rfl rfl rfl (hps) rfl (by rfl) rfl ?_; (case hh => repeat (first | exact SubH.nil | refine SubH.cons rfl rfl rfl ?_)))
   refine VOps.range rfl rfl rfl rfl rfl ?_
   (repeat (first | ((with_reducible refine VOps.same ?_); (first | (refine VOps.nil ?_; try dsimp only [VThen, VBlock])))))
   refine VCode.block ?_
   refine VCode.loop (fun m st => ∃ (S : List Nat) (zs : List Bool), m = leftN ps.length S ∧ zs.length = g.names.length ∧ zs.take k = (eachOf g w soB).take k ∧ (∀ j, k + 1 ≤ j → j < g.names.length → zs[j]? = some false) ∧ zs[k]? = some (someOf ps k soB S) ∧ st = ⟨[(33, .ref 3), (9, .val (.int .i64 (k : Int))), (24, .val (.int .i64 (k : Int))), (23, .val (.int .i64 (g.names.length : Int))), (8, .ref 1), (7, lV (stepsOf g w)), (2, .fn 51 []), (3, .ptr 0 0)], [(0, gO g), (1, .arr 4 1 (zs.map encB)), (2, .map (mapOf ps)), (3, .iter 2 (mapOf ps).length S)], 4⟩) (leftN ps.length []) ?_ ?_
   ·(refine Less.mk (l := [0, 1, 2, 3]) hcx ?ss ?hh rfl (by decide) rfl ⟨[], ys, rfl, hyl, hyt, (fun j h1 h2 => hyf j (by omega) h2), hyk, rfl⟩; (case ss => repeat (first | exact SubS.nil | refine SubS.cons rfl rfl ?_ | refine SubS.cons (ciI (by omega)) rfl ?_ | refine SubS.cons (ciB (by assumption)) rfl ?_)); (case hh => repeat (first | exact SubH.nil | refine SubH.cons rfl rfl rfl ?_)))
   rintro m st ⟨S, zs, rfl, hzl, hzt, hzf, hzk, rfl⟩
   (repeat (first | refine VCode.seq ?_ | refine VCode.region rfl ?_))
   refine VOps.next rfl rfl rfl rfl rfl rfl rfl (fun hall => ?_) (fun j key val hj hjS => ?_)
   ·rw [someOf_all (fun j hj => hall j (by rw [hml]; exact hj))] at hzk
    (repeat (first | ((with_reducible refine VOps.same ?_); (first | (refine VOps.nil ?_; try dsimp only [VThen, VBlock]) | refine VOps.vP (VPure.extract rfl rfl rfl) ?_)) | refine VCode.seq ?_))
    refine VCode.cond_f rfl rfl ?_
    (repeat (first | ((with_reducible refine VOps.same ?_); (first | (refine VOps.nil ?_; try dsimp only [VThen, VBlock]) | refine VOps.vP (VPure.move rfl rfl) ?_ | refine VOps.vP (VPure.addK rfl rfl rfl (by omega)) ?_)) | refine VCode.region rfl ?_ | refine VCode.exit ?_))
    (refine Less.mk (l := [0, 1]) hcx ?ss ?hh rfl (by decide) rfl ⟨_, ?_, k + 1, zs, by omega, rfl, hzl, ?_, hzf, rfl⟩; (case ss => repeat (first | exact SubS.nil | refine SubS.cons rfl rfl ?_ | refine SubS.cons (ciI (by omega)) rfl ?_ | refine SubS.cons (ciB (by assumption)) rfl ?_)); (case hh => repeat (first | exact SubH.nil | refine SubH.cons rfl rfl rfl ?_)))
    ·omega
    ·rw [List.take_add_one, List.take_add_one, hzt, heq, hzk]
   ·obtain ⟨p, hp, rfl, rfl⟩ := map_get hj
    have hjl := (List.getElem?_eq_some_iff.1 hp).1
    have hnx := someOf_add (a := k) (so := soB) (S := S) hp
    have hms := leftN_add hjl hjS
    obtain ⟨p1, pl, pr⟩ := p
    (repeat (first | ((with_reducible refine VOps.same ?_); (first | (refine VOps.nil ?_; try dsimp only [VThen, VBlock]) | refine VOps.vP (VPure.extract rfl rfl rfl) ?_)) | refine VCode.seq ?_))
    refine VCode.cond_t rfl rfl ?_
    (repeat (first | refine VCode.seq ?_ | refine VCode.region rfl ?_ | refine VCode.block ?_ | refine VCode.skip ?_))
    refine VOps.vv rfl (by kernel_rfl) rfl (VLoad.entry rfl rfl rfl rfl rfl hj (by decide)) ?_
    (repeat (first | ((with_reducible refine VOps.same ?_); (first | (refine VOps.nil ?_; try dsimp only [VThen, VBlock]) | refine VOps.vP (VPure.move rfl rfl) ?_ | refine VOps.vP (VPure.extract rfl rfl rfl) ?_ | refine VOps.vP (VPure.idx_arrm rfl rfl rfl rfl (by assumption)) ?_ | refine VOps.vV (VLoad.arr1m rfl rfl rfl (by rfl) (by assumption) (by rfl) rfl (by decide)) ?_ | refine VOps.alloc rfl rfl (by kernel_rfl) rfl (by kernel_rfl) rfl ?_ | refine VOps.store rfl rfl (by kernel_rfl) rfl rfl rfl rfl rfl rfl (leR (by rfl)) rfl ?_)) | refine VCode.region rfl ?_))
    refine VOps.bool (d := 44) rfl (fun b1 => ?_) (fun b1 => ?_)
    ·rw [b1, Bool.true_or] at hnx
     (repeat (first | ((with_reducible refine VOps.same ?_); (first | refine VOps.vP (VPure.idx_arrm rfl rfl rfl rfl (by assumption)) ?_ | refine VOps.vP (VPure.pick_t rfl rfl rfl) ?_ | refine VOps.passv rfl (by kernel_rfl) rfl ?_))))
     refine VOps.store_arrm (u' := true ) (ys :=  zs.set k true) rfl rfl (by kernel_rfl) rfl rfl rfl rfl (by rfl) (by assumption) rfl rfl (by first | decide | exact Nat.le_of_ble_eq_true (by rfl)) (by rfl) (by rfl) ?_
     (repeat (first | ((with_reducible refine VOps.same ?_); (first | (refine VOps.nil ?_; try dsimp only [VThen, VBlock])))))
     (refine Less.mk (l := [0, 1, 2, 3]) hcx ?ss ?hh rfl (by decide) rfl ⟨_, ?_, S ++ [j], zs.set k true, rfl, by rw [List.length_set]; exact hzl, by rw [set_take]; exact hzt, (fun i h1 h2 => by rw [List.getElem?_set, if_neg (by omega)]; exact hzf i h1 h2), by rw [List.getElem?_set, if_pos rfl, if_pos (by omega), hnx], rfl⟩; (case ss => repeat (first | exact SubS.nil | refine SubS.cons rfl rfl ?_ | refine SubS.cons (ciI (by omega)) rfl ?_ | refine SubS.cons (ciB (by assumption)) rfl ?_)); (case hh => repeat (first | exact SubH.nil | refine SubH.cons rfl rfl rfl ?_)))
     omega
    ·rw [b1, Bool.false_or] at hnx
     (repeat (first | ((with_reducible refine VOps.same ?_); (first | refine VOps.vP (VPure.move rfl rfl) ?_ | refine VOps.vP (VPure.field_ptr rfl rfl rfl) ?_ | refine VOps.vV (VLoad.box1 rfl rfl rfl rfl (by rfl) (by decide)) ?_ | refine VOps.vP (VPure.eqi rfl rfl rfl) ?_))))
     refine VOps.bool (d := 49) rfl (fun b2 => ?_) (fun b2 => ?_)
     ·rw [decide_eq_true (show ((p1, pl, pr) : Pl).1 = k by have := of_decide_eq_true b2; show p1 = k; omega), Bool.true_and] at hnx
      (repeat (first | ((with_reducible refine VOps.same ?_); (first | refine VOps.vP (VPure.move rfl rfl) ?_ | refine VOps.vV (VLoad.boxA rfl rfl rfl (by rfl) (leR (by rfl)) (by decide)) ?_))))
      refine VOps.pure rfl Try.func51 rfl (by kernel_rfl) rfl rfl rfl rfl rfl rfl rfl (soB_v (p1, pl, pr)) ?_
      (repeat (first | ((with_reducible refine VOps.same ?_); (first | refine VOps.vP (VPure.idx_arrm rfl rfl rfl rfl (by assumption)) ?_ | refine VOps.vP (VPure.pick_t rfl rfl rfl) ?_ | refine VOps.vP (VPure.pick_f rfl rfl rfl) ?_))))
      refine VOps.store_arrm (u' := (soB (p1, pl, pr)) ) (ys :=  zs.set k (soB (p1, pl, pr))) rfl rfl (by kernel_rfl) rfl rfl rfl rfl (by rfl) (by assumption) rfl rfl (by first | decide | exact Nat.le_of_ble_eq_true (by rfl)) (by rfl) (by rfl) ?_
      (repeat (first | ((with_reducible refine VOps.same ?_); (first | (refine VOps.nil ?_; try dsimp only [VThen, VBlock])))))
      (refine Less.mk (l := [0, 1, 2, 3]) hcx ?ss ?hh rfl (by decide) rfl ⟨_, ?_, S ++ [j], zs.set k (soB (p1, pl, pr)), rfl, by rw [List.length_set]; exact hzl, by rw [set_take]; exact hzt, (fun i h1 h2 => by rw [List.getElem?_set, if_neg (by omega)]; exact hzf i h1 h2), by rw [List.getElem?_set, if_pos rfl, if_pos (by omega), hnx], rfl⟩; (case ss => repeat (first | exact SubS.nil | refine SubS.cons rfl rfl ?_ | refine SubS.cons (ciI (by omega)) rfl ?_ | refine SubS.cons (ciB (by assumption)) rfl ?_)); (case hh => repeat (first | exact SubH.nil | refine SubH.cons rfl rfl rfl ?_)))
      omega
     ·rw [decide_eq_false (show ¬ ((p1, pl, pr) : Pl).1 = k by have := of_decide_eq_false b2; show ¬ p1 = k; omega), Bool.false_and] at hnx
      (repeat (first | ((with_reducible refine VOps.same ?_); (first | refine VOps.vP (VPure.idx_arrm rfl rfl rfl rfl (by assumption)) ?_ | refine VOps.vP (VPure.pick_f rfl rfl rfl) ?_ | refine VOps.passv rfl (by kernel_rfl) rfl ?_))))
      refine VOps.store_arrm (u' := false ) (ys :=  zs.set k false) rfl rfl (by kernel_rfl) rfl rfl rfl rfl (by rfl) (by assumption) rfl rfl (by first | decide | exact Nat.le_of_ble_eq_true (by rfl)) (by rfl) (by rfl) ?_
      (repeat (first | ((with_reducible refine VOps.same ?_); (first | (refine VOps.nil ?_; try dsimp only [VThen, VBlock])))))
      (refine Less.mk (l := [0, 1, 2, 3]) hcx ?ss ?hh rfl (by decide) rfl ⟨_, ?_, S ++ [j], zs.set k false, rfl, by rw [List.length_set]; exact hzl, by rw [set_take]; exact hzt, (fun i h1 h2 => by rw [List.getElem?_set, if_neg (by omega)]; exact hzf i h1 h2), by rw [List.getElem?_set, if_pos rfl, if_pos (by omega), hnx], rfl⟩; (case ss => repeat (first | exact SubS.nil | refine SubS.cons rfl rfl ?_ | refine SubS.cons (ciI (by omega)) rfl ?_ | refine SubS.cons (ciB (by assumption)) rfl ?_)); (case hh => repeat (first | exact SubH.nil | refine SubH.cons rfl rfl rfl ?_)))
      omega
  ·(repeat (first | ((with_reducible refine VOps.same ?_); (first | (refine VOps.nil ?_; try dsimp only [VThen, VBlock]) | refine VOps.vP (VPure.lss rfl rfl rfl) ?_)) | refine VCode.seq ?_ | refine VCode.region rfl ?_))
   refine VCode.cond_f rfl (decide_eq_false (by omega)) ?_
   (repeat (first | ((with_reducible refine VOps.same ?_); (first | (refine VOps.nil ?_; try dsimp only [VThen, VBlock]) | refine VOps.vP (VPure.move rfl rfl) ?_ | refine VOps.vP (VPure.assign rfl rfl) ?_)) | refine VCode.seq ?_ | refine VCode.region rfl ?_ | refine VCode.exit ?_))
   refine VCode.freeze (id := 1) rfl ?_
   refine VCode.retD rfl rfl (.tmp rfl .nil) ?_
   have : ys = eachOf g w soB := by
    rw [List.take_of_length_le (by omega), List.take_of_length_le (by rw [eachOf_len hG]; omega)] at hyt
    exact hyt
   rw [this]; rfl
 ·have he : eachOf g w soB = [] := by unfold eachOf; rw [if_neg hG]
  have ho : onOf g [] = [] := by unfold onOf; rw [if_neg hG]
  refine VCode.cond_t rfl (by rw [ho]; rfl) ?_
  (repeat (first | ((with_reducible refine VOps.same ?_); (first | (refine VOps.nil ?_; try dsimp only [VThen, VBlock]) | refine VOps.vP (VPure.assign rfl rfl) ?_)) | refine VCode.seq ?_ | refine VCode.region rfl ?_))
  refine VCode.nilS 6 1 rfl ?_
  refine VCode.retD rfl rfl (.tmp rfl .nil) ?_
  rw [he]; rfl
theorem both_v (g : Gr) (w : List Spot) (hg : Sized g) (hw : w.length ≤ 1000000) : VCalls Try.prog 33 [gV g, sV w] [] 0 (Gives (.sl 1 ((eachOf g w soB).map encB))) := by
 refine VCalls.enterD (n := 8) Try.func33 rfl rfl (by simp) rfl (fun cx hcx => ?_)
 (repeat (first | ((with_reducible refine VOps.same ?_); (first | (refine VOps.nil ?_; try dsimp only [VThen, VBlock]) | refine VOps.vP (VPure.move rfl rfl) ?_ | refine VOps.vP (VPure.assign rfl rfl) ?_ | refine VOps.vV (VLoad.boxA rfl rfl rfl (by rfl) (leR (by rfl)) (by decide)) ?_ | refine VOps.box rfl rfl (by kernel_rfl) rfl rfl rfl rfl ?_)) | refine VCode.seq ?_ | refine VCode.region rfl ?_))
 refine VOps.gives rfl Try.func47 rfl (by kernel_rfl) rfl rfl rfl rfl rfl rfl rfl rfl (eachB_v g w hg hw) ?_
 (repeat (first | ((with_reducible refine VOps.same ?_); (first | (refine VOps.nil ?_; try dsimp only [VThen, VBlock]) | refine VOps.vP (VPure.assign rfl rfl) ?_))))
 refine VCode.retD rfl rfl (.tmp rfl .nil) ?_
 rfl
end Go.Proofs.Ytfjfbapiheehaaa.V
end
section
set_option linter.unusedVariables false
set_option linter.unusedSimpArgs false
namespace Go.Proofs.Ytfjfbapiheehaaa.V
open Go Go.RowKit
def lgo : Nat → List Nat → Nat
 | n, [] => n
 | n, m :: l => if n ≤ 4000 then lgo (n + 1 + min m 4000) l else n
theorem lgo_stop {n : Nat} (h : 4000 < n) (l : List Nat) : lgo n l = n := by
 cases l with
 | nil => rfl
 | cons m l => unfold lgo; rw [if_neg (by omega)]
theorem lgo_small (l : List Nat) : ∀ n, lgo n l ≤ 4000 → n + l.length ≤ 4000 ∧ ∀ m ∈ l, m ≤ 4000 := by
 induction l with
 | nil => intro n h; exact ⟨h, fun m h => by cases h⟩
 | cons m l ih =>
  intro n h
  unfold lgo at h
  split at h
  ·obtain ⟨h1, h2⟩ := ih _ h
   rw [List.length_cons]
   refine ⟨by omega, fun q hq => ?_⟩
   rcases List.mem_cons.1 hq with rfl | hq
   ·omega
   ·exact h2 q hq
  ·omega
theorem lgo_step {l : List Nat} {k n m : Nat} (h : l[k]? = some m) (hn : n ≤ 4000) : lgo n (l.drop k) = lgo (n + 1 + min m 4000) (l.drop (k + 1)) := by
 rw [List.drop_eq_getElem_cons (List.getElem?_eq_some_iff.1 h).1, (List.getElem?_eq_some_iff.1 h).2]
 conv => lhs; unfold lgo
 rw [if_pos hn]
theorem lgo_done {l : List Nat} {k n : Nat} (h : l.length ≤ k) : lgo n (l.drop k) = n := by
 rw [List.drop_of_length_le h]; rfl
theorem lgo_max (l : List Nat) : ∀ n, n ≤ 8001 → lgo n l ≤ 8001 := by
 induction l with
 | nil => intro n h; exact h
 | cons m l ih =>
  intro n h
  unfold lgo
  split
  ·exact ih _ (by omega)
  ·exact h
def tsz (g : Gr) : List Nat := g.terms.map ByteArray.size
def nsz (g : Gr) : List Nat := g.names.map ByteArray.size
def rsz (g : Gr) : List Nat := g.rules.map fun r => r.right.length
def sum1 (g : Gr) : Nat := lgo 0 (tsz g)
def sum2 (g : Gr) : Nat := lgo (sum1 g) (nsz g)
def sum3 (g : Gr) : Nat := lgo (sum2 g) (rsz g)
def largeG (g : Gr) : Bool := decide (4000 < sum3 g) || decide (200 < g.rules.length)
theorem small_sized {g : Gr} (h : largeG g = false) : Sized g ∧ g.rules.length ≤ 200 := by
 unfold largeG at h
 simp only [Bool.or_eq_false_iff, decide_eq_false_iff_not] at h
 have h3 := lgo_small (rsz g) (sum2 g) (by have := h.1; unfold sum3 at this; omega)
 have h2 := lgo_small (nsz g) (sum1 g) (by have := h3.1; unfold sum2 at this; omega)
 have h1 := lgo_small (tsz g) 0 (by have := h2.1; unfold sum1 at this; omega)
 simp only [tsz, nsz, rsz, List.length_map] at h1 h2 h3
 refine ⟨⟨by omega, by omega, by omega, fun r hr => h3.2 _ (List.mem_map.2 ⟨r, hr, rfl⟩), fun s hs => h1.2 _ (List.mem_map.2 ⟨s, hs, rfl⟩), fun s hs => h2.2 _ (List.mem_map.2 ⟨s, hs, rfl⟩)⟩, by omega⟩
theorem min_is (m : Nat) : (if (4000 : Int) < (m : Int) then (4000 : Int) else (m : Int)) = ((min m 4000 : Nat) : Int) := by split <;> omega
theorem sum_bound {n m : Nat} (h : n ≤ 4000) : n + 1 + min m 4000 ≤ 8001 := by omega
set_option maxHeartbeats 4000000 in
theorem large_v (g : Gr) : VCalls Try.prog 11 [gV g] [] 0 (Gives (.val (.bool (largeG g)))) := by
 have b1 : sum1 g ≤ 8001 := lgo_max _ _ (by omega)
 have b2 : sum2 g ≤ 8001 := lgo_max _ _ b1
 have b3 : sum3 g ≤ 8001 := lgo_max _ _ b2
 refine VCalls.enterD (n := 79) Try.func11 rfl rfl (by simp) rfl (fun cx hcx => ?_)
 (repeat (first | ((with_reducible refine VOps.same ?_); (first | (refine VOps.nil ?_; try dsimp only [VThen, VBlock]) | refine VOps.vP (VPure.assign rfl rfl) ?_ | refine VOps.box rfl rfl (by kernel_rfl) rfl rfl rfl rfl ?_)) | refine VCode.seq ?_ | refine VCode.region rfl ?_))
 refine VCode.thenTo ⟨[(3, .val (.int .i64 ((sum1 g : Nat) : Int))), (1, .ptr 0 0)], [(0, gO g)], 1⟩ ?_ ?_
 ·(repeat (first | refine VCode.block ?_))
  refine VCode.loop (fun m st => ∃ k n : Nat, m = 8002 - n ∧ k ≤ n ∧ n ≤ 8001 ∧ lgo n ((tsz g).drop k) = sum1 g ∧ st = ⟨[(4, .val (.int .i64 (k : Int))), (3, .val (.int .i64 (n : Int))), (1, .ptr 0 0)], [(0, gO g)], 1⟩) (8002 - 0) ?_ ?_
  ·(refine Less.mk (l := [0]) hcx ?ss ?hh rfl (by decide) rfl ⟨0, 0, rfl, by omega, by omega, rfl, rfl⟩; (case ss => repeat (first | exact SubS.nil | refine SubS.cons rfl rfl ?_ | refine SubS.cons (ciI (by omega)) rfl ?_ | refine SubS.cons (ciB (by assumption)) rfl ?_)); (case hh => repeat (first | exact SubH.nil | refine SubH.cons rfl rfl rfl ?_)))
  rintro m st ⟨k, n, rfl, hkn, hn1, hl, rfl⟩
  by_cases hc1 : k < g.terms.length
  ·by_cases hc2 : n ≤ 4000
   ·obtain ⟨y, hy⟩ : ∃ y, g.terms[k]? = some y := ⟨_, List.getElem?_eq_getElem hc1⟩
    have hz : (tsz g)[k]? = some (y.size) := by unfold tsz; rw [List.getElem?_map, hy]; rfl
    rw [lgo_step hz hc2] at hl
    have hsb := sum_bound (m := y.size) hc2
    (repeat (first | ((with_reducible refine VOps.same ?_); (first | refine VOps.vP (VPure.move rfl rfl) ?_ | refine VOps.vP (VPure.len_map TI.und' rfl rfl) ?_ | refine VOps.vP (VPure.field_ptr rfl rfl rfl) ?_ | refine VOps.vV (VLoad.box1 rfl rfl rfl rfl (by rfl) (by decide)) ?_ | refine VOps.vP (VPure.lss rfl rfl rfl) ?_)) | refine VCode.seq ?_ | refine VCode.region rfl ?_))
    refine VOps.says (d := 12) (v := .val (.bool true)) rfl (by rw [decide_eq_true (by omega)]) ?_
    (repeat (first | ((with_reducible refine VOps.same ?_); (first | (refine VOps.nil ?_; try dsimp only [VThen, VBlock]) | refine VOps.vP (VPure.move rfl rfl) ?_ | refine VOps.vP (VPure.leq rfl rfl rfl) ?_ | refine VOps.vP (VPure.pick_t rfl rfl rfl) ?_))))
    refine VCode.cond_t rfl (decide_eq_true (by omega)) ?_
    (repeat (first | ((with_reducible refine VOps.same ?_); (first | refine VOps.vP (VPure.move rfl rfl) ?_ | refine VOps.vP (VPure.len_str TI.und' rfl rfl) ?_ | refine VOps.vP (VPure.idx_map rfl rfl rfl (by assumption)) ?_ | refine VOps.vP (VPure.field_ptr rfl rfl rfl) ?_ | refine VOps.vV (VLoad.el1 rfl rfl rfl (by rfl)) ?_ | refine VOps.vV (VLoad.box1 rfl rfl rfl rfl (by rfl) (by decide)) ?_)) | refine VCode.seq ?_ | refine VCode.region rfl ?_ | refine VCode.block ?_ | refine VCode.skip ?_))
    refine VOps.vP (VPure.min rfl rfl rfl) ?_
    refine VOps.says (d := 25) (v := .val (.int .i64 ((min (y.size) 4000 : Nat) : Int))) rfl (by rw [min_is]) ?_
    (repeat (first | ((with_reducible refine VOps.same ?_); (first | (refine VOps.nil ?_; try dsimp only [VThen, VBlock]) | refine VOps.vP (VPure.move rfl rfl) ?_ | refine VOps.vP (VPure.assign rfl rfl) ?_ | refine VOps.vP (VPure.addK rfl rfl rfl (by omega)) ?_)) | refine VCode.region rfl ?_))
    (refine Less.mk (l := [0]) hcx ?ss ?hh rfl (by decide) rfl ⟨_, ?_, k + 1, n + 1 + min (y.size) 4000, rfl, by omega, by omega, hl, rfl⟩; (case ss => repeat (first | exact SubS.nil | refine SubS.cons rfl rfl ?_ | refine SubS.cons (ciI (by omega)) rfl ?_ | refine SubS.cons (ciB (by assumption)) rfl ?_)); (case hh => repeat (first | exact SubH.nil | refine SubH.cons rfl rfl rfl ?_)))
    omega
   ·rw [lgo_stop (by omega)] at hl
    subst hl
    (repeat (first | ((with_reducible refine VOps.same ?_); (first | refine VOps.vP (VPure.move rfl rfl) ?_ | refine VOps.vP (VPure.len_map TI.und' rfl rfl) ?_ | refine VOps.vP (VPure.field_ptr rfl rfl rfl) ?_ | refine VOps.vV (VLoad.box1 rfl rfl rfl rfl (by rfl) (by decide)) ?_ | refine VOps.vP (VPure.lss rfl rfl rfl) ?_)) | refine VCode.seq ?_ | refine VCode.region rfl ?_))
    refine VOps.says (d := 12) (v := .val (.bool true)) rfl (by rw [decide_eq_true (by omega)]) ?_
    (repeat (first | ((with_reducible refine VOps.same ?_); (first | (refine VOps.nil ?_; try dsimp only [VThen, VBlock]) | refine VOps.vP (VPure.move rfl rfl) ?_ | refine VOps.vP (VPure.leq rfl rfl rfl) ?_ | refine VOps.vP (VPure.pick_t rfl rfl rfl) ?_))))
    refine VCode.cond_f rfl (decide_eq_false (by omega)) ?_
    (repeat (first | refine VCode.exit ?_))
    (refine Less.mk (l := [0]) hcx ?ss ?hh rfl (by decide) rfl rfl; (case ss => repeat (first | exact SubS.nil | refine SubS.cons rfl rfl ?_ | refine SubS.cons (ciI (by omega)) rfl ?_ | refine SubS.cons (ciB (by assumption)) rfl ?_)); (case hh => repeat (first | exact SubH.nil | refine SubH.cons rfl rfl rfl ?_)))
  ·rw [lgo_done (by unfold tsz; rw [List.length_map]; omega)] at hl
   subst hl
   (repeat (first | ((with_reducible refine VOps.same ?_); (first | refine VOps.vP (VPure.move rfl rfl) ?_ | refine VOps.vP (VPure.len_map TI.und' rfl rfl) ?_ | refine VOps.vP (VPure.field_ptr rfl rfl rfl) ?_ | refine VOps.vV (VLoad.box1 rfl rfl rfl rfl (by rfl) (by decide)) ?_ | refine VOps.vP (VPure.lss rfl rfl rfl) ?_)) | refine VCode.seq ?_ | refine VCode.region rfl ?_))
   refine VOps.says (d := 12) (v := .val (.bool false)) rfl (by rw [decide_eq_false (by omega)]) ?_
   (repeat (first | ((with_reducible refine VOps.same ?_); (first | (refine VOps.nil ?_; try dsimp only [VThen, VBlock]) | refine VOps.vP (VPure.pick_f rfl rfl rfl) ?_ | refine VOps.passv rfl (by kernel_rfl) rfl ?_))))
   refine VCode.cond_f rfl rfl ?_
   (repeat (first | refine VCode.exit ?_))
   (refine Less.mk (l := [0]) hcx ?ss ?hh rfl (by decide) rfl rfl; (case ss => repeat (first | exact SubS.nil | refine SubS.cons rfl rfl ?_ | refine SubS.cons (ciI (by omega)) rfl ?_ | refine SubS.cons (ciB (by assumption)) rfl ?_)); (case hh => repeat (first | exact SubH.nil | refine SubH.cons rfl rfl rfl ?_)))
 (repeat (first | ((with_reducible refine VOps.same ?_); (first | (refine VOps.nil ?_; try dsimp only [VThen, VBlock]) | refine VOps.vP (VPure.assign rfl rfl) ?_)) | refine VCode.seq ?_ | refine VCode.region rfl ?_))
 refine VCode.thenTo ⟨[(3, .val (.int .i64 ((sum2 g : Nat) : Int))), (1, .ptr 0 0)], [(0, gO g)], 1⟩ ?_ ?_
 ·(repeat (first | refine VCode.block ?_))
  refine VCode.loop (fun m st => ∃ k n : Nat, m = 8002 - n ∧ k ≤ n + 0 ∧ n ≤ 8001 ∧ lgo n ((nsz g).drop k) = sum2 g ∧ st = ⟨[(5, .val (.int .i64 (k : Int))), (3, .val (.int .i64 (n : Int))), (1, .ptr 0 0)], [(0, gO g)], 1⟩) (8002 - sum1 g) ?_ ?_
  ·(refine Less.mk (l := [0]) hcx ?ss ?hh rfl (by decide) rfl ⟨0, sum1 g, rfl, by omega, b1, rfl, rfl⟩; (case ss => repeat (first | exact SubS.nil | refine SubS.cons rfl rfl ?_ | refine SubS.cons (ciI (by omega)) rfl ?_ | refine SubS.cons (ciB (by assumption)) rfl ?_)); (case hh => repeat (first | exact SubH.nil | refine SubH.cons rfl rfl rfl ?_)))
  rintro m st ⟨k, n, rfl, hkn, hn1, hl, rfl⟩
  by_cases hc1 : k < g.names.length
  ·by_cases hc2 : n ≤ 4000
   ·obtain ⟨y, hy⟩ : ∃ y, g.names[k]? = some y := ⟨_, List.getElem?_eq_getElem hc1⟩
    have hz : (nsz g)[k]? = some (y.size) := by unfold nsz; rw [List.getElem?_map, hy]; rfl
    rw [lgo_step hz hc2] at hl
    have hsb := sum_bound (m := y.size) hc2
    (repeat (first | ((with_reducible refine VOps.same ?_); (first | refine VOps.vP (VPure.move rfl rfl) ?_ | refine VOps.vP (VPure.len_map TI.und' rfl rfl) ?_ | refine VOps.vP (VPure.field_ptr rfl rfl rfl) ?_ | refine VOps.vV (VLoad.box1 rfl rfl rfl rfl (by rfl) (by decide)) ?_ | refine VOps.vP (VPure.lss rfl rfl rfl) ?_)) | refine VCode.seq ?_ | refine VCode.region rfl ?_))
    refine VOps.says (d := 33) (v := .val (.bool true)) rfl (by rw [decide_eq_true (by omega)]) ?_
    (repeat (first | ((with_reducible refine VOps.same ?_); (first | (refine VOps.nil ?_; try dsimp only [VThen, VBlock]) | refine VOps.vP (VPure.move rfl rfl) ?_ | refine VOps.vP (VPure.leq rfl rfl rfl) ?_ | refine VOps.vP (VPure.pick_t rfl rfl rfl) ?_))))
    refine VCode.cond_t rfl (decide_eq_true (by omega)) ?_
    (repeat (first | ((with_reducible refine VOps.same ?_); (first | refine VOps.vP (VPure.move rfl rfl) ?_ | refine VOps.vP (VPure.len_str TI.und' rfl rfl) ?_ | refine VOps.vP (VPure.idx_map rfl rfl rfl (by assumption)) ?_ | refine VOps.vP (VPure.field_ptr rfl rfl rfl) ?_ | refine VOps.vV (VLoad.el1 rfl rfl rfl (by rfl)) ?_ | refine VOps.vV (VLoad.box1 rfl rfl rfl rfl (by rfl) (by decide)) ?_)) | refine VCode.seq ?_ | refine VCode.region rfl ?_ | refine VCode.block ?_ | refine VCode.skip ?_))
    refine VOps.vP (VPure.min rfl rfl rfl) ?_
    refine VOps.says (d := 46) (v := .val (.int .i64 ((min (y.size) 4000 : Nat) : Int))) rfl (by rw [min_is]) ?_
    (repeat (first | ((with_reducible refine VOps.same ?_); (first | (refine VOps.nil ?_; try dsimp only [VThen, VBlock]) | refine VOps.vP (VPure.move rfl rfl) ?_ | refine VOps.vP (VPure.assign rfl rfl) ?_ | refine VOps.vP (VPure.addK rfl rfl rfl (by omega)) ?_)) | refine VCode.region rfl ?_))
    (refine Less.mk (l := [0]) hcx ?ss ?hh rfl (by decide) rfl ⟨_, ?_, k + 1, n + 1 + min (y.size) 4000, rfl, by omega, by omega, hl, rfl⟩; (case ss => repeat (first | exact SubS.nil | refine SubS.cons rfl rfl ?_ | refine SubS.cons (ciI (by omega)) rfl ?_ | refine SubS.cons (ciB (by assumption)) rfl ?_)); (case hh => repeat (first | exact SubH.nil | refine SubH.cons rfl rfl rfl ?_)))
    omega
   ·rw [lgo_stop (by omega)] at hl
    subst hl
    (repeat (first | ((with_reducible refine VOps.same ?_); (first | refine VOps.vP (VPure.move rfl rfl) ?_ | refine VOps.vP (VPure.len_map TI.und' rfl rfl) ?_ | refine VOps.vP (VPure.field_ptr rfl rfl rfl) ?_ | refine VOps.vV (VLoad.box1 rfl rfl rfl rfl (by rfl) (by decide)) ?_ | refine VOps.vP (VPure.lss rfl rfl rfl) ?_)) | refine VCode.seq ?_ | refine VCode.region rfl ?_))
    refine VOps.says (d := 33) (v := .val (.bool true)) rfl (by rw [decide_eq_true (by omega)]) ?_
    (repeat (first | ((with_reducible refine VOps.same ?_); (first | (refine VOps.nil ?_; try dsimp only [VThen, VBlock]) | refine VOps.vP (VPure.move rfl rfl) ?_ | refine VOps.vP (VPure.leq rfl rfl rfl) ?_ | refine VOps.vP (VPure.pick_t rfl rfl rfl) ?_))))
    refine VCode.cond_f rfl (decide_eq_false (by omega)) ?_
    (repeat (first | refine VCode.exit ?_))
    (refine Less.mk (l := [0]) hcx ?ss ?hh rfl (by decide) rfl rfl; (case ss => repeat (first | exact SubS.nil | refine SubS.cons rfl rfl ?_ | refine SubS.cons (ciI (by omega)) rfl ?_ | refine SubS.cons (ciB (by assumption)) rfl ?_)); (case hh => repeat (first | exact SubH.nil | refine SubH.cons rfl rfl rfl ?_)))
  ·rw [lgo_done (by unfold nsz; rw [List.length_map]; omega)] at hl
   subst hl
   (repeat (first | ((with_reducible refine VOps.same ?_); (first | refine VOps.vP (VPure.move rfl rfl) ?_ | refine VOps.vP (VPure.len_map TI.und' rfl rfl) ?_ | refine VOps.vP (VPure.field_ptr rfl rfl rfl) ?_ | refine VOps.vV (VLoad.box1 rfl rfl rfl rfl (by rfl) (by decide)) ?_ | refine VOps.vP (VPure.lss rfl rfl rfl) ?_)) | refine VCode.seq ?_ | refine VCode.region rfl ?_))
   refine VOps.says (d := 33) (v := .val (.bool false)) rfl (by rw [decide_eq_false (by omega)]) ?_
   (repeat (first | ((with_reducible refine VOps.same ?_); (first | (refine VOps.nil ?_; try dsimp only [VThen, VBlock]) | refine VOps.vP (VPure.pick_f rfl rfl rfl) ?_ | refine VOps.passv rfl (by kernel_rfl) rfl ?_))))
   refine VCode.cond_f rfl rfl ?_
   (repeat (first | refine VCode.exit ?_))
   (refine Less.mk (l := [0]) hcx ?ss ?hh rfl (by decide) rfl rfl; (case ss => repeat (first | exact SubS.nil | refine SubS.cons rfl rfl ?_ | refine SubS.cons (ciI (by omega)) rfl ?_ | refine SubS.cons (ciB (by assumption)) rfl ?_)); (case hh => repeat (first | exact SubH.nil | refine SubH.cons rfl rfl rfl ?_)))
 (repeat (first | ((with_reducible refine VOps.same ?_); (first | (refine VOps.nil ?_; try dsimp only [VThen, VBlock]) | refine VOps.vP (VPure.assign rfl rfl) ?_)) | refine VCode.seq ?_ | refine VCode.region rfl ?_))
 refine VCode.thenTo ⟨[(3, .val (.int .i64 ((sum3 g : Nat) : Int))), (1, .ptr 0 0)], [(0, gO g)], 1⟩ ?_ ?_
 ·(repeat (first | refine VCode.block ?_))
  refine VCode.loop (fun m st => ∃ k n : Nat, m = 8002 - n ∧ k ≤ n ∧ n ≤ 8001 ∧ lgo n ((rsz g).drop k) = sum3 g ∧ st = ⟨[(6, .val (.int .i64 (k : Int))), (3, .val (.int .i64 (n : Int))), (1, .ptr 0 0)], [(0, gO g)], 1⟩) (8002 - sum2 g) ?_ ?_
  ·(refine Less.mk (l := [0]) hcx ?ss ?hh rfl (by decide) rfl ⟨0, sum2 g, rfl, by omega, b2, rfl, rfl⟩; (case ss => repeat (first | exact SubS.nil | refine SubS.cons rfl rfl ?_ | refine SubS.cons (ciI (by omega)) rfl ?_ | refine SubS.cons (ciB (by assumption)) rfl ?_)); (case hh => repeat (first | exact SubH.nil | refine SubH.cons rfl rfl rfl ?_)))
  rintro m st ⟨k, n, rfl, hkn, hn1, hl, rfl⟩
  by_cases hc1 : k < g.rules.length
  ·by_cases hc2 : n ≤ 4000
   ·obtain ⟨y, hy⟩ : ∃ y, g.rules[k]? = some y := ⟨_, List.getElem?_eq_getElem hc1⟩
    have hz : (rsz g)[k]? = some (y.right.length) := by unfold rsz; rw [List.getElem?_map, hy]; rfl
    rw [lgo_step hz hc2] at hl
    have hsb := sum_bound (m := y.right.length) hc2
    (repeat (first | ((with_reducible refine VOps.same ?_); (first | refine VOps.vP (VPure.move rfl rfl) ?_ | refine VOps.vP (VPure.len_map TI.und' rfl rfl) ?_ | refine VOps.vP (VPure.field_ptr rfl rfl rfl) ?_ | refine VOps.vV (VLoad.box1 rfl rfl rfl rfl (by rfl) (by decide)) ?_ | refine VOps.vP (VPure.lss rfl rfl rfl) ?_)) | refine VCode.seq ?_ | refine VCode.region rfl ?_))
    refine VOps.says (d := 54) (v := .val (.bool true)) rfl (by rw [decide_eq_true (by omega)]) ?_
    (repeat (first | ((with_reducible refine VOps.same ?_); (first | (refine VOps.nil ?_; try dsimp only [VThen, VBlock]) | refine VOps.vP (VPure.move rfl rfl) ?_ | refine VOps.vP (VPure.leq rfl rfl rfl) ?_ | refine VOps.vP (VPure.pick_t rfl rfl rfl) ?_))))
    refine VCode.cond_t rfl (decide_eq_true (by omega)) ?_
    (repeat (first | ((with_reducible refine VOps.same ?_); (first | refine VOps.vP (VPure.move rfl rfl) ?_ | refine VOps.vP (VPure.len_map TI.und' rfl rfl) ?_ | refine VOps.vP (VPure.idx_map rfl rfl rfl (by assumption)) ?_ | refine VOps.vP (VPure.field_el rfl rfl) ?_ | refine VOps.vP (VPure.field_ptr rfl rfl rfl) ?_ | refine VOps.vV (VLoad.el1 rfl rfl rfl (by rfl)) ?_ | refine VOps.vV (VLoad.box1 rfl rfl rfl rfl (by rfl) (by decide)) ?_)) | refine VCode.seq ?_ | refine VCode.region rfl ?_ | refine VCode.block ?_ | refine VCode.skip ?_))
    refine VOps.vP (VPure.min rfl rfl rfl) ?_
    refine VOps.says (d := 68) (v := .val (.int .i64 ((min (y.right.length) 4000 : Nat) : Int))) rfl (by rw [min_is]) ?_
    (repeat (first | ((with_reducible refine VOps.same ?_); (first | (refine VOps.nil ?_; try dsimp only [VThen, VBlock]) | refine VOps.vP (VPure.move rfl rfl) ?_ | refine VOps.vP (VPure.assign rfl rfl) ?_ | refine VOps.vP (VPure.addK rfl rfl rfl (by omega)) ?_)) | refine VCode.region rfl ?_))
    (refine Less.mk (l := [0]) hcx ?ss ?hh rfl (by decide) rfl ⟨_, ?_, k + 1, n + 1 + min (y.right.length) 4000, rfl, by omega, by omega, hl, rfl⟩; (case ss => repeat (first | exact SubS.nil | refine SubS.cons rfl rfl ?_ | refine SubS.cons (ciI (by omega)) rfl ?_ | refine SubS.cons (ciB (by assumption)) rfl ?_)); (case hh => repeat (first | exact SubH.nil | refine SubH.cons rfl rfl rfl ?_)))
    omega
   ·rw [lgo_stop (by omega)] at hl
    subst hl
    (repeat (first | ((with_reducible refine VOps.same ?_); (first | refine VOps.vP (VPure.move rfl rfl) ?_ | refine VOps.vP (VPure.len_map TI.und' rfl rfl) ?_ | refine VOps.vP (VPure.field_ptr rfl rfl rfl) ?_ | refine VOps.vV (VLoad.box1 rfl rfl rfl rfl (by rfl) (by decide)) ?_ | refine VOps.vP (VPure.lss rfl rfl rfl) ?_)) | refine VCode.seq ?_ | refine VCode.region rfl ?_))
    refine VOps.says (d := 54) (v := .val (.bool true)) rfl (by rw [decide_eq_true (by omega)]) ?_
    (repeat (first | ((with_reducible refine VOps.same ?_); (first | (refine VOps.nil ?_; try dsimp only [VThen, VBlock]) | refine VOps.vP (VPure.move rfl rfl) ?_ | refine VOps.vP (VPure.leq rfl rfl rfl) ?_ | refine VOps.vP (VPure.pick_t rfl rfl rfl) ?_))))
    refine VCode.cond_f rfl (decide_eq_false (by omega)) ?_
    (repeat (first | refine VCode.exit ?_))
    (refine Less.mk (l := [0]) hcx ?ss ?hh rfl (by decide) rfl rfl; (case ss => repeat (first | exact SubS.nil | refine SubS.cons rfl rfl ?_ | refine SubS.cons (ciI (by omega)) rfl ?_ | refine SubS.cons (ciB (by assumption)) rfl ?_)); (case hh => repeat (first | exact SubH.nil | refine SubH.cons rfl rfl rfl ?_)))
  ·rw [lgo_done (by unfold rsz; rw [List.length_map]; omega)] at hl
   subst hl
   (repeat (first | ((with_reducible refine VOps.same ?_); (first | refine VOps.vP (VPure.move rfl rfl) ?_ | refine VOps.vP (VPure.len_map TI.und' rfl rfl) ?_ | refine VOps.vP (VPure.field_ptr rfl rfl rfl) ?_ | refine VOps.vV (VLoad.box1 rfl rfl rfl rfl (by rfl) (by decide)) ?_ | refine VOps.vP (VPure.lss rfl rfl rfl) ?_)) | refine VCode.seq ?_ | refine VCode.region rfl ?_))
   refine VOps.says (d := 54) (v := .val (.bool false)) rfl (by rw [decide_eq_false (by omega)]) ?_
   (repeat (first | ((with_reducible refine VOps.same ?_); (first | (refine VOps.nil ?_; try dsimp only [VThen, VBlock]) | refine VOps.vP (VPure.pick_f rfl rfl rfl) ?_ | refine VOps.passv rfl (by kernel_rfl) rfl ?_))))
   refine VCode.cond_f rfl rfl ?_
   (repeat (first | refine VCode.exit ?_))
   (refine Less.mk (l := [0]) hcx ?ss ?hh rfl (by decide) rfl rfl; (case ss => repeat (first | exact SubS.nil | refine SubS.cons rfl rfl ?_ | refine SubS.cons (ciI (by omega)) rfl ?_ | refine SubS.cons (ciB (by assumption)) rfl ?_)); (case hh => repeat (first | exact SubH.nil | refine SubH.cons rfl rfl rfl ?_)))
 (repeat (first | ((with_reducible refine VOps.same ?_); (first | refine VOps.vP (VPure.move rfl rfl) ?_ | refine VOps.vP (VPure.gtr rfl rfl rfl) ?_)) | refine VCode.seq ?_ | refine VCode.region rfl ?_))
 refine VOps.bool (d := 73) rfl (fun h1 => ?_) (fun h1 => ?_)
 ·(repeat (first | ((with_reducible refine VOps.same ?_); (first | (refine VOps.nil ?_; try dsimp only [VThen, VBlock]) | refine VOps.vP (VPure.assign rfl rfl) ?_ | refine VOps.vP (VPure.pick_t rfl rfl rfl) ?_ | refine VOps.passv rfl (by kernel_rfl) rfl ?_))))
  refine VCode.retD rfl rfl (.tmp rfl .nil) ?_
  have : largeG g = true := by unfold largeG; rw [decide_eq_true (by have := of_decide_eq_true h1; omega)]; rfl
  rw [this]; rfl
 ·(repeat (first | ((with_reducible refine VOps.same ?_); (first | (refine VOps.nil ?_; try dsimp only [VThen, VBlock]) | refine VOps.vP (VPure.assign rfl rfl) ?_ | refine VOps.vP (VPure.len_map TI.und' rfl rfl) ?_ | refine VOps.vP (VPure.field_ptr rfl rfl rfl) ?_ | refine VOps.vV (VLoad.box1 rfl rfl rfl rfl (by rfl) (by decide)) ?_ | refine VOps.vP (VPure.gtr rfl rfl rfl) ?_ | refine VOps.vP (VPure.pick_f rfl rfl rfl) ?_))))
  refine VCode.retD rfl rfl (.tmp rfl .nil) ?_
  have h1 := of_decide_eq_false h1
  have : largeG g = decide ((200 : Int) < (g.rules.length : Int)) := by
   unfold largeG
   rw [decide_eq_false (p := 4000 < sum3 g) (by omega), Bool.false_or, decide_eq_decide]; omega
  rw [this]; rfl
set_option maxHeartbeats 1000000 in
theorem spots_v (a b : List Spot) (ha : a.length ≤ 1000000) : VCalls Try.prog 17 [.sl 2 (a.map encP), .sl 2 (b.map encP)] [] 0 (Gives (.val (.bool (decide (a = b))))) := by
 refine VCalls.enter (n := 26) Try.func17 rfl rfl (by simp) (fun cx hcx => ?_)
 (repeat (first | ((with_reducible refine VOps.same ?_); (first | (refine VOps.nil ?_; try dsimp only [VThen, VBlock]) | refine VOps.vP (VPure.move rfl rfl) ?_ | refine VOps.vP (VPure.assign rfl rfl) ?_ | refine VOps.vP (VPure.len_map TI.und' rfl rfl) ?_ | refine VOps.vP (VPure.nei rfl rfl rfl) ?_)) | refine VCode.seq ?_ | refine VCode.region rfl ?_))
 refine VCode.cond rfl (fun hc => ?_) (fun hc => ?_)
 ·(repeat (first | ((with_reducible refine VOps.same ?_); (first | (refine VOps.nil ?_; try dsimp only [VThen, VBlock]) | refine VOps.vP (VPure.assign rfl rfl) ?_)) | refine VCode.seq ?_ | refine VCode.region rfl ?_))
  refine VCode.give hcx rfl rfl rfl rfl rfl ?_
  simp only [Bool.not_eq_true', decide_eq_false_iff_not] at hc
  have : decide (a = b) = false := decide_eq_false (fun h => hc (by rw [h]))
  rw [this]
 ·simp only [Bool.not_eq_false', decide_eq_true_eq] at hc
  have hlen : a.length = b.length := by omega
  (repeat (first | ((with_reducible refine VOps.same ?_); (first | (refine VOps.nil ?_; try dsimp only [VThen, VBlock]) | refine VOps.vP (VPure.assign rfl rfl) ?_)) | refine VCode.seq ?_ | refine VCode.region rfl ?_ | refine VCode.block ?_ | refine VCode.skip ?_))
  refine VCode.loop (fun m st => ∃ k : Nat, k ≤ a.length ∧ m = a.length - k ∧ a.take k = b.take k ∧ st = ⟨[(5, .val (.int .i64 (k : Int))), (0, .sl 2 (a.map encP)), (1, .sl 2 (b.map encP))], [], 0⟩) a.length ?_ ?_
  ·(refine Less.mk (l := []) hcx ?ss ?hh rfl (by decide) rfl ⟨0, by omega, by omega, by simp, rfl⟩; (case ss => repeat (first | exact SubS.nil | refine SubS.cons rfl rfl ?_ | refine SubS.cons (ciI (by omega)) rfl ?_ | refine SubS.cons (ciB (by assumption)) rfl ?_)); (case hh => repeat (first | exact SubH.nil | refine SubH.cons rfl rfl rfl ?_)))
  rintro m st ⟨k, hk, rfl, hs, rfl⟩
  cases ht : a[k]? with
  | some t =>
   have hlt : k < a.length := (List.getElem?_eq_some_iff.1 ht).1
   obtain ⟨u, hu⟩ : ∃ u, b[k]? = some u := ⟨_, List.getElem?_eq_getElem (by omega)⟩
   have hne : (!spotEq t u) = !decide (t = u) := by rw [spotEq_is]
   (repeat (first | ((with_reducible refine VOps.same ?_); (first | (refine VOps.nil ?_; try dsimp only [VThen, VBlock]) | refine VOps.vP (VPure.move rfl rfl) ?_ | refine VOps.vP (VPure.len_map TI.und' rfl rfl) ?_ | refine VOps.vP (VPure.lss rfl rfl rfl) ?_)) | refine VCode.seq ?_ | refine VCode.region rfl ?_))
   refine VCode.cond_t rfl (decide_eq_true (by omega)) ?_
   (repeat (first | ((with_reducible refine VOps.same ?_); (first | (refine VOps.nil ?_; try dsimp only [VThen, VBlock]) | refine VOps.vP (VPure.move rfl rfl) ?_ | refine VOps.vP (VPure.idx_map rfl rfl rfl (by assumption)) ?_ | refine VOps.vV (VLoad.elA rfl rfl (by rfl) (leR (by rfl))) ?_ | refine VOps.vP (VPure.neA rfl rfl rfl (by rfl)) ?_)) | refine VCode.seq ?_ | refine VCode.draw [] rfl ?_ | refine VCode.block ?_ | refine VCode.skip ?_))
   refine VCode.cond rfl (fun hb => ?_) (fun hb => ?_)
   ·(repeat (first | ((with_reducible refine VOps.same ?_); (first | (refine VOps.nil ?_; try dsimp only [VThen, VBlock]) | refine VOps.vP (VPure.assign rfl rfl) ?_)) | refine VCode.seq ?_ | refine VCode.region rfl ?_))
    refine VCode.give hcx rfl rfl rfl rfl rfl ?_
    have hb := hne.symm.trans hb
    have hne : t ≠ u := by simpa using hb
    have : decide (a = b) = false := decide_eq_false (fun e => hne (by subst e; rw [ht] at hu; exact Option.some.inj hu))
    rw [this]
   ·have hb := hne.symm.trans hb
    (repeat (first | ((with_reducible refine VOps.same ?_); (first | (refine VOps.nil ?_; try dsimp only [VThen, VBlock]) | refine VOps.vP (VPure.move rfl rfl) ?_ | refine VOps.vP (VPure.assign rfl rfl) ?_ | refine VOps.vP (VPure.addK rfl rfl rfl (by omega)) ?_)) | refine VCode.region rfl ?_ | refine VCode.skip ?_))
    (refine Less.mk (l := []) hcx ?ss ?hh rfl (by decide) rfl ⟨_, ?_, k + 1, by omega, rfl, take_eq hs ht hu (by simpa using hb), rfl⟩; (case ss => repeat (first | exact SubS.nil | refine SubS.cons rfl rfl ?_ | refine SubS.cons (ciI (by omega)) rfl ?_ | refine SubS.cons (ciB (by assumption)) rfl ?_)); (case hh => repeat (first | exact SubH.nil | refine SubH.cons rfl rfl rfl ?_)))
    omega
  | none =>
   have hge : a.length ≤ k := List.getElem?_eq_none_iff.1 ht
   rw [List.take_of_length_le hge, List.take_of_length_le (by omega)] at hs
   (repeat (first | ((with_reducible refine VOps.same ?_); (first | (refine VOps.nil ?_; try dsimp only [VThen, VBlock]) | refine VOps.vP (VPure.move rfl rfl) ?_ | refine VOps.vP (VPure.len_map TI.und' rfl rfl) ?_ | refine VOps.vP (VPure.lss rfl rfl rfl) ?_)) | refine VCode.seq ?_ | refine VCode.region rfl ?_))
   refine VCode.cond_f rfl (decide_eq_false (by omega)) ?_
   (repeat (first | ((with_reducible refine VOps.same ?_); (first | (refine VOps.nil ?_; try dsimp only [VThen, VBlock]) | refine VOps.vP (VPure.assign rfl rfl) ?_)) | refine VCode.seq ?_ | refine VCode.region rfl ?_ | refine VCode.exit ?_))
   refine VCode.give hcx rfl rfl rfl rfl rfl ?_
   rw [decide_eq_true hs]
set_option maxHeartbeats 1000000 in
theorem bools_v (a b : List Bool) (ha : a.length ≤ 1000000) : VCalls Try.prog 16 [.sl 1 (a.map encB), .sl 1 (b.map encB)] [] 0 (Gives (.val (.bool (decide (a = b))))) := by
 refine VCalls.enter (n := 26) Try.func16 rfl rfl (by simp) (fun cx hcx => ?_)
 (repeat (first | ((with_reducible refine VOps.same ?_); (first | (refine VOps.nil ?_; try dsimp only [VThen, VBlock]) | refine VOps.vP (VPure.move rfl rfl) ?_ | refine VOps.vP (VPure.assign rfl rfl) ?_ | refine VOps.vP (VPure.len_map TI.und' rfl rfl) ?_ | refine VOps.vP (VPure.nei rfl rfl rfl) ?_)) | refine VCode.seq ?_ | refine VCode.region rfl ?_))
 refine VCode.cond rfl (fun hc => ?_) (fun hc => ?_)
 ·(repeat (first | ((with_reducible refine VOps.same ?_); (first | (refine VOps.nil ?_; try dsimp only [VThen, VBlock]) | refine VOps.vP (VPure.assign rfl rfl) ?_)) | refine VCode.seq ?_ | refine VCode.region rfl ?_))
  refine VCode.give hcx rfl rfl rfl rfl rfl ?_
  simp only [Bool.not_eq_true', decide_eq_false_iff_not] at hc
  have : decide (a = b) = false := decide_eq_false (fun h => hc (by rw [h]))
  rw [this]
 ·simp only [Bool.not_eq_false', decide_eq_true_eq] at hc
  have hlen : a.length = b.length := by omega
  (repeat (first | ((with_reducible refine VOps.same ?_); (first | (refine VOps.nil ?_; try dsimp only [VThen, VBlock]) | refine VOps.vP (VPure.assign rfl rfl) ?_)) | refine VCode.seq ?_ | refine VCode.region rfl ?_ | refine VCode.block ?_ | refine VCode.skip ?_))
  refine VCode.loop (fun m st => ∃ k : Nat, k ≤ a.length ∧ m = a.length - k ∧ a.take k = b.take k ∧ st = ⟨[(5, .val (.int .i64 (k : Int))), (0, .sl 1 (a.map encB)), (1, .sl 1 (b.map encB))], [], 0⟩) a.length ?_ ?_
  ·(refine Less.mk (l := []) hcx ?ss ?hh rfl (by decide) rfl ⟨0, by omega, by omega, by simp, rfl⟩; (case ss => repeat (first | exact SubS.nil | refine SubS.cons rfl rfl ?_ | refine SubS.cons (ciI (by omega)) rfl ?_ | refine SubS.cons (ciB (by assumption)) rfl ?_)); (case hh => repeat (first | exact SubH.nil | refine SubH.cons rfl rfl rfl ?_)))
  rintro m st ⟨k, hk, rfl, hs, rfl⟩
  cases ht : a[k]? with
  | some t =>
   have hlt : k < a.length := (List.getElem?_eq_some_iff.1 ht).1
   obtain ⟨u, hu⟩ : ∃ u, b[k]? = some u := ⟨_, List.getElem?_eq_getElem (by omega)⟩
   have hne : (!(t == u)) = !decide (t = u) := by cases t <;> cases u <;> rfl
   (repeat (first | ((with_reducible refine VOps.same ?_); (first | (refine VOps.nil ?_; try dsimp only [VThen, VBlock]) | refine VOps.vP (VPure.move rfl rfl) ?_ | refine VOps.vP (VPure.len_map TI.und' rfl rfl) ?_ | refine VOps.vP (VPure.lss rfl rfl rfl) ?_)) | refine VCode.seq ?_ | refine VCode.region rfl ?_))
   refine VCode.cond_t rfl (decide_eq_true (by omega)) ?_
   (repeat (first | ((with_reducible refine VOps.same ?_); (first | (refine VOps.nil ?_; try dsimp only [VThen, VBlock]) | refine VOps.vP (VPure.move rfl rfl) ?_ | refine VOps.vP (VPure.idx_map rfl rfl rfl (by assumption)) ?_ | refine VOps.vV (VLoad.el1 rfl rfl rfl (by rfl)) ?_ | refine VOps.vP (VPure.neb TI.und' rfl rfl rfl) ?_)) | refine VCode.seq ?_ | refine VCode.draw [] rfl ?_ | refine VCode.block ?_ | refine VCode.skip ?_))
   refine VCode.cond rfl (fun hb => ?_) (fun hb => ?_)
   ·(repeat (first | ((with_reducible refine VOps.same ?_); (first | (refine VOps.nil ?_; try dsimp only [VThen, VBlock]) | refine VOps.vP (VPure.assign rfl rfl) ?_)) | refine VCode.seq ?_ | refine VCode.region rfl ?_))
    refine VCode.give hcx rfl rfl rfl rfl rfl ?_
    have hb := hne.symm.trans hb
    have hne : t ≠ u := by simpa using hb
    have : decide (a = b) = false := decide_eq_false (fun e => hne (by subst e; rw [ht] at hu; exact Option.some.inj hu))
    rw [this]
   ·have hb := hne.symm.trans hb
    (repeat (first | ((with_reducible refine VOps.same ?_); (first | (refine VOps.nil ?_; try dsimp only [VThen, VBlock]) | refine VOps.vP (VPure.move rfl rfl) ?_ | refine VOps.vP (VPure.assign rfl rfl) ?_ | refine VOps.vP (VPure.addK rfl rfl rfl (by omega)) ?_)) | refine VCode.region rfl ?_ | refine VCode.skip ?_))
    (refine Less.mk (l := []) hcx ?ss ?hh rfl (by decide) rfl ⟨_, ?_, k + 1, by omega, rfl, take_eq hs ht hu (by simpa using hb), rfl⟩; (case ss => repeat (first | exact SubS.nil | refine SubS.cons rfl rfl ?_ | refine SubS.cons (ciI (by omega)) rfl ?_ | refine SubS.cons (ciB (by assumption)) rfl ?_)); (case hh => repeat (first | exact SubH.nil | refine SubH.cons rfl rfl rfl ?_)))
    omega
  | none =>
   have hge : a.length ≤ k := List.getElem?_eq_none_iff.1 ht
   rw [List.take_of_length_le hge, List.take_of_length_le (by omega)] at hs
   (repeat (first | ((with_reducible refine VOps.same ?_); (first | (refine VOps.nil ?_; try dsimp only [VThen, VBlock]) | refine VOps.vP (VPure.move rfl rfl) ?_ | refine VOps.vP (VPure.len_map TI.und' rfl rfl) ?_ | refine VOps.vP (VPure.lss rfl rfl rfl) ?_)) | refine VCode.seq ?_ | refine VCode.region rfl ?_))
   refine VCode.cond_f rfl (decide_eq_false (by omega)) ?_
   (repeat (first | ((with_reducible refine VOps.same ?_); (first | (refine VOps.nil ?_; try dsimp only [VThen, VBlock]) | refine VOps.vP (VPure.assign rfl rfl) ?_)) | refine VCode.seq ?_ | refine VCode.region rfl ?_ | refine VCode.exit ?_))
   refine VCode.give hcx rfl rfl rfl rfl rfl ?_
   rw [decide_eq_true hs]
end Go.Proofs.Ytfjfbapiheehaaa.V
end
section
set_option linter.unusedVariables false
set_option linter.unusedSimpArgs false
namespace Go.Proofs.Ytfjfbapiheehaaa.V
open Go Go.RowKit Go.Proofs.Ytfjfbapiheehaaa.P Go.Proofs.Ytfjfbapiheehaaa.DG
def eachC (g : Gr) (w : List Spot) (so : Pl → Bool) : List Bool := (List.range g.names.length).map (fun a => (plOf ((restC g w).map (stepOf g)) g.names.length a).any fun p => decide (p.1 = a) && so p)
theorem each_C {g : Gr} (h : GoodG g) (w : List Spot) (so : Pl → Bool) : eachOf g w so = eachC g w so := by
 unfold eachOf
 rw [if_pos h]
 unfold eachC stepsOf
 rw [rest_C h]
def etext : ByteArray := ⟨#[83, 32, 61, 32, 39, 40, 39, 32, 83, 32, 39, 41, 39, 32, 124, 32, 65, 32, 59, 32, 65, 32, 61, 32, 65, 32, 39, 97, 39, 32, 124, 32, 39, 98, 39, 32, 65, 32, 124, 32, 66, 32, 59, 32, 66, 32, 61, 32, 66, 32, 39, 99, 39, 32, 124, 32, 59]⟩
def etoks : List Tok := [⟨1, ⟨#[83]⟩, 0⟩, ⟨3, ⟨#[61]⟩, 2⟩, ⟨2, ⟨#[40]⟩, 4⟩, ⟨1, ⟨#[83]⟩, 8⟩, ⟨2, ⟨#[41]⟩, 10⟩, ⟨4, ⟨#[124]⟩, 14⟩, ⟨1, ⟨#[65]⟩, 16⟩, ⟨5, ⟨#[59]⟩, 18⟩, ⟨1, ⟨#[65]⟩, 20⟩, ⟨3, ⟨#[61]⟩, 22⟩, ⟨1, ⟨#[65]⟩, 24⟩, ⟨2, ⟨#[97]⟩, 26⟩, ⟨4, ⟨#[124]⟩, 30⟩, ⟨2, ⟨#[98]⟩, 32⟩, ⟨1, ⟨#[65]⟩, 36⟩, ⟨4, ⟨#[124]⟩, 38⟩, ⟨1, ⟨#[66]⟩, 40⟩, ⟨5, ⟨#[59]⟩, 42⟩, ⟨1, ⟨#[66]⟩, 44⟩, ⟨3, ⟨#[61]⟩, 46⟩, ⟨1, ⟨#[66]⟩, 48⟩, ⟨2, ⟨#[99]⟩, 50⟩, ⟨4, ⟨#[124]⟩, 54⟩, ⟨5, ⟨#[59]⟩, 56⟩]
def ealts : List Alt := [⟨⟨1, ⟨#[83]⟩, 0⟩, [⟨2, ⟨#[40]⟩, 4⟩, ⟨1, ⟨#[83]⟩, 8⟩, ⟨2, ⟨#[41]⟩, 10⟩]⟩, ⟨⟨1, ⟨#[83]⟩, 0⟩, [⟨1, ⟨#[65]⟩, 16⟩]⟩, ⟨⟨1, ⟨#[65]⟩, 20⟩, [⟨1, ⟨#[65]⟩, 24⟩, ⟨2, ⟨#[97]⟩, 26⟩]⟩, ⟨⟨1, ⟨#[65]⟩, 20⟩, [⟨2, ⟨#[98]⟩, 32⟩, ⟨1, ⟨#[65]⟩, 36⟩]⟩, ⟨⟨1, ⟨#[65]⟩, 20⟩, [⟨1, ⟨#[66]⟩, 40⟩]⟩, ⟨⟨1, ⟨#[66]⟩, 44⟩, [⟨1, ⟨#[66]⟩, 48⟩, ⟨2, ⟨#[99]⟩, 50⟩]⟩, ⟨⟨1, ⟨#[66]⟩, 44⟩, []⟩]
def eg : Gr := ⟨[⟨#[40]⟩, ⟨#[41]⟩, ⟨#[97]⟩, ⟨#[98]⟩, ⟨#[99]⟩], [⟨#[83]⟩, ⟨#[65]⟩, ⟨#[66]⟩], [⟨5, [0, 5, 1]⟩, ⟨5, [6]⟩, ⟨6, [6, 2]⟩, ⟨6, [3, 6]⟩, ⟨6, [7]⟩, ⟨7, [7, 4]⟩, ⟨7, []⟩]⟩
theorem e_lex : lex_Tokens.f etext = some (etoks, 0, 0) := by kernel_rfl
theorem e_alts : read_Alts.f etoks 57 = some (ealts, 0, 0) := by kernel_rfl
theorem e_g : ofG ealts = eg := by kernel_rfl
theorem of_e : VCalls Try.prog 34 [.val (.string etext)] [] 0 (Gives (.tup [gV eg, fV 0 0])) :=
 of_at (by decide +kernel) e_lex (by decide +kernel) e_alts (by decide +kernel) (by kernel_rfl) (by decide +kernel) (by decide +kernel) (by kernel_rfl) e_g
theorem e_good : GoodG eg := good_of (by kernel_rfl)
theorem e_sized : Sized eg := (small_sized (show largeG eg = false by kernel_rfl)).1
theorem e_left : eachOf eg [] soL = [true, true, false] := by rw [each_C e_good]; kernel_rfl
theorem e_right : eachOf eg [] soR = [true, true, true] := by rw [each_C e_good]; kernel_rfl
theorem e_both : eachOf eg [] soB = [true, true, false] := by rw [each_C e_good]; kernel_rfl
theorem e_both2 : eachOf eg [(0, 1)] soB = [false, true, false] := by rw [each_C e_good]; kernel_rfl
set_option maxHeartbeats 8000000 in
theorem ewakes_v : VCalls Try.prog 29 [] [] 0 (Gives (.val (.bool true))) := by
 refine VCalls.enterD (n := 44) Try.func29 rfl rfl (by simp) rfl (fun cx hcx => ?_)
 (repeat (first | ((with_reducible refine VOps.same ?_); (first | (refine VOps.nil ?_; try dsimp only [VThen, VBlock]) | refine VOps.vP (VPure.assign rfl rfl) ?_)) | refine VCode.seq ?_ | refine VCode.region rfl ?_))
 refine VOps.gives rfl Try.func34 rfl (by kernel_rfl) rfl rfl rfl rfl rfl rfl rfl rfl (of_e) ?_
 (repeat (first | ((with_reducible refine VOps.same ?_); (first | (refine VOps.nil ?_; try dsimp only [VThen, VBlock]) | refine VOps.vP (VPure.move rfl rfl) ?_ | refine VOps.vP (VPure.extract rfl rfl rfl) ?_ | refine VOps.alloc rfl rfl (by kernel_rfl) rfl (by kernel_rfl) rfl ?_ | refine VOps.store rfl rfl (by kernel_rfl) rfl rfl rfl rfl rfl rfl (leR (by rfl)) rfl ?_)) | refine VCode.seq ?_))
 refine VCode.thenTo ⟨[(3, .sl 1 ([true, true, false].map encB)), (4, .sl 1 ([true, true, true].map encB)), (5, .sl 1 ([true, true, false].map encB)), (1, .ptr 0 0), (2, .ptr 1 0)], [(0, gO eg), (1, .cells 53 [.val (.int .i64 0), .val (.int .i64 0)])], 2⟩ ?_ ?_
 ·refine VCode.drawAny [] (by kernel_rfl) rfl ?_
  refine VAny.loadI (i := 0) rfl rfl (by kernel_rfl) rfl (VLoad.boxA rfl rfl rfl (by rfl) (leR (by rfl)) (by decide)) ?_
  refine VAny.loadI (i := 2) rfl rfl (by kernel_rfl) rfl (VLoad.boxA rfl rfl rfl (by rfl) (leR (by rfl)) (by decide)) ?_
  refine VAny.loadI (i := 4) rfl rfl (by kernel_rfl) rfl (VLoad.boxA rfl rfl rfl (by rfl) (leR (by rfl)) (by decide)) ?_
  refine VAny.movesI (is := [1]) (by kernel_rfl) (by simp) rfl (all1 ?_)
  ·refine VMv.oo rfl rfl rfl rfl (VOp.gives rfl Try.func30 rfl rfl rfl rfl rfl rfl ((by have := nil2 (left_v eg [] e_sized (by decide)); rw [e_left] at this; exact this)) rfl) ?_
   refine VAny.movesI (is := [3]) (by kernel_rfl) (by simp) rfl (all1 ?_)
   ·refine VMv.oo rfl rfl rfl rfl (VOp.gives rfl Try.func32 rfl rfl rfl rfl rfl rfl ((by have := nil2 (right_v eg [] e_sized (by decide)); rw [e_right] at this; exact this)) rfl) ?_
    refine VAny.movesI (is := [5]) (by kernel_rfl) (by simp) rfl (all1 ?_)
    ·refine VMv.oo rfl rfl rfl rfl (VOp.gives rfl Try.func33 rfl rfl rfl rfl rfl rfl ((by have := nil2 (both_v eg [] e_sized (by decide)); rw [e_both] at this; exact this)) rfl) ?_
     refine VAny.pureI (i := 6) rfl rfl (by kernel_rfl) rfl (VPure.assign rfl rfl) ?_
     refine VAny.pureI (i := 7) rfl rfl (by kernel_rfl) rfl (VPure.assign rfl rfl) ?_
     refine VAny.pureI (i := 8) rfl rfl (by kernel_rfl) rfl (VPure.assign rfl rfl) ?_
     refine VAny.done ?_
     (refine Less.mk (l := [0, 1]) hcx ?ss ?hh rfl (by decide) rfl rfl; (case ss => repeat (first | exact SubS.nil | refine SubS.cons rfl rfl ?_ | refine SubS.cons (ciI (by omega)) rfl ?_ | refine SubS.cons (ciB (by assumption)) rfl ?_)); (case hh => repeat (first | exact SubH.nil | refine SubH.cons rfl rfl rfl ?_)))
 (repeat (first | ((with_reducible refine VOps.same ?_); (first | refine VOps.vV (VLoad.boxA rfl rfl rfl (by rfl) (leR (by rfl)) (by decide)) ?_ | refine VOps.vP (VPure.buildC rfl (by kernel_rfl) rfl (by rfl)) ?_ | refine VOps.one rfl rfl (by kernel_rfl) rfl (by rfl) (by decide) (by decide) rfl (by rfl) (by rfl) ?_)) | refine VCode.seq ?_ | refine VCode.region rfl ?_))
 refine VOps.freeze (id := 2) rfl ?_
 refine VOps.gives rfl Try.func33 rfl (by kernel_rfl) rfl rfl rfl rfl rfl rfl rfl rfl (by have := both_v eg [(0, 1)] e_sized (by decide); rw [e_both2] at this; exact this) ?_
 (repeat (first | ((with_reducible refine VOps.same ?_); (first | (refine VOps.nil ?_; try dsimp only [VThen, VBlock]) | refine VOps.vP (VPure.move rfl rfl) ?_ | refine VOps.vP (VPure.assign rfl rfl) ?_ | refine VOps.vP (VPure.field_ptr rfl rfl rfl) ?_ | refine VOps.vV (VLoad.box1 rfl rfl rfl rfl (by rfl) (by decide)) ?_ | refine VOps.vP (VPure.eqi rfl rfl rfl) ?_)) | refine VCode.seq ?_ | refine VCode.region rfl ?_))
 refine VOps.lit (rows := [encB true, encB true, encB false]) rfl rfl (by kernel_rfl) rfl (by kernel_rfl) (by rfl) (by decide) (by decide) rfl (by rfl) (by rfl) (by rfl) (by rfl) ?_
 refine VOps.pure rfl Try.func16 rfl (by kernel_rfl) rfl rfl rfl rfl rfl rfl rfl (bools_v [true, true, false] [true, true, false] (by decide)) ?_
 (repeat (first | ((with_reducible refine VOps.same ?_); (first | refine VOps.vP (VPure.move rfl rfl) ?_ | refine VOps.vP (VPure.pick_t rfl rfl rfl) ?_))))
 refine VOps.lit (rows := [encB true, encB true, encB true]) rfl rfl (by kernel_rfl) rfl (by kernel_rfl) (by rfl) (by decide) (by decide) rfl (by rfl) (by rfl) (by rfl) (by rfl) ?_
 refine VOps.pure rfl Try.func16 rfl (by kernel_rfl) rfl rfl rfl rfl rfl rfl rfl (bools_v [true, true, true] [true, true, true] (by decide)) ?_
 (repeat (first | ((with_reducible refine VOps.same ?_); (first | refine VOps.vP (VPure.move rfl rfl) ?_ | refine VOps.vP (VPure.pick_t rfl rfl rfl) ?_))))
 refine VOps.lit (rows := [encB true, encB true, encB false]) rfl rfl (by kernel_rfl) rfl (by kernel_rfl) (by rfl) (by decide) (by decide) rfl (by rfl) (by rfl) (by rfl) (by rfl) ?_
 refine VOps.pure rfl Try.func16 rfl (by kernel_rfl) rfl rfl rfl rfl rfl rfl rfl (bools_v [true, true, false] [true, true, false] (by decide)) ?_
 (repeat (first | ((with_reducible refine VOps.same ?_); (first | refine VOps.vP (VPure.move rfl rfl) ?_ | refine VOps.vP (VPure.pick_t rfl rfl rfl) ?_))))
 refine VOps.lit (rows := [encB false, encB true, encB false]) rfl rfl (by kernel_rfl) rfl (by kernel_rfl) (by rfl) (by decide) (by decide) rfl (by rfl) (by rfl) (by rfl) (by rfl) ?_
 refine VOps.pure rfl Try.func16 rfl (by kernel_rfl) rfl rfl rfl rfl rfl rfl rfl (bools_v [false, true, false] [false, true, false] (by decide)) ?_
 (repeat (first | ((with_reducible refine VOps.same ?_); (first | (refine VOps.nil ?_; try dsimp only [VThen, VBlock]) | refine VOps.vP (VPure.assign rfl rfl) ?_ | refine VOps.vP (VPure.pick_t rfl rfl rfl) ?_))))
 refine VCode.retD rfl rfl (.tmp rfl .nil) ?_
 rfl
end Go.Proofs.Ytfjfbapiheehaaa.V
end
section
set_option linter.unusedVariables false
set_option linter.unusedSimpArgs false
namespace Go.Proofs.Ytfjfbapiheehaaa.V
open Go Go.RowKit Go.Proofs.Ytfjfbapiheehaaa.P Go.Proofs.Ytfjfbapiheehaaa.DG
end Go.Proofs.Ytfjfbapiheehaaa.V
end
section
set_option linter.unusedVariables false
set_option linter.unusedSimpArgs false
namespace Go.Proofs.Ytfjfbapiheehaaa.V
open Go Go.RowKit Go.Proofs.Ytfjfbapiheehaaa.DG
section
variable {H : Type} {enc : TypeId × Value → H} {w : World} {spare : Nat → Bool} {held : Bool}
def goodSs (l : List ByteArray) : Prop := (∀ a ∈ l, a.size ≤ reachBytes) ∧ l.length * 16 ≤ reachBytes
theorem open_strs : OpensD enc Try.prog w 0 spare held (fun l : List ByteArray => [.sl 1 (l.map encS)]) 22 goodSs :=
 opensD_slice TI.und' (by kernel_rfl) (by kernel_rfl) (by kernel_rfl) (by decide) (opensD_string TI.und' (by kernel_rfl))
theorem open_i64 : OpensD enc Try.prog w 0 spare held (fun n : Int => [.val (.int .i64 n)]) 3 (fun n => (Lit.int .i64 n).wf = true) := opensD_int TI.und' (by kernel_rfl)
def goodIs (l : List Int) : Prop := (∀ a ∈ l, (Lit.int .i64 a).wf = true) ∧ l.length * 8 ≤ reachBytes
theorem open_ints : OpensD enc Try.prog w 0 spare held (fun l : List Int => [.sl 1 (l.map encI)]) 37 goodIs :=
 opensD_slice TI.und' (by kernel_rfl) (by kernel_rfl) (by kernel_rfl) (by decide) open_i64
def goodRu (r : Ru) : Prop := (Lit.int .i64 r.left).wf = true ∧ goodIs r.right ∧ True
theorem open_rule : OpensD enc Try.prog w 0 spare held encR 46 goodRu :=
 opensD_struct (good := fun p : Int × List Int × Unit => (Lit.int .i64 p.1).wf = true ∧ goodIs p.2.1 ∧ True) (f := fun p : Int × List Int × Unit => [.val (.int .i64 p.1)] ++ ([.sl 1 (p.2.1.map encI)] ++ [])) (g := fun r : Ru => (r.left, r.right, ())) (fun p => ⟨p.1, p.2.1⟩) (fun _ => rfl) (ti46).und (by kernel_rfl)
  (opensF_cons (m := 1) (f := fun n : Int => [.val (.int .i64 n)]) (f' := fun p : List Int × Unit => [.sl 1 (p.1.map encI)] ++ []) (good := fun n : Int => (Lit.int .i64 n).wf = true) (good' := fun p : List Int × Unit => goodIs p.1 ∧ True) rfl (by kernel_rfl) open_i64 (opensF_cons (m := 1) (f := fun l : List Int => [.sl 1 (l.map encI)]) (f' := fun _ : Unit => []) (good := goodIs) (good' := fun _ => True) rfl (by kernel_rfl) open_ints opensF_nil))
def goodRs (l : List Ru) : Prop := (∀ a ∈ l, goodRu a) ∧ l.length * 32 ≤ reachBytes
theorem open_rules : OpensD enc Try.prog w 0 spare held (fun l : List Ru => [.sl 2 (l.map encR)]) 23 goodRs :=
 opensD_slice TI.und' (by kernel_rfl) (by kernel_rfl) (by kernel_rfl) (by decide) open_rule
def encG (g : Gr) : List D := [.sl 1 (g.terms.map encS), .sl 1 (g.names.map encS), .sl 2 (g.rules.map encR)]
def goodGr (g : Gr) : Prop := goodSs g.terms ∧ goodSs g.names ∧ goodRs g.rules ∧ True
theorem open_gr : OpensD enc Try.prog w 0 spare held encG 25 goodGr :=
 opensD_struct (good := fun p : List ByteArray × List ByteArray × List Ru × Unit => goodSs p.1 ∧ goodSs p.2.1 ∧ goodRs p.2.2.1 ∧ True) (f := fun p : List ByteArray × List ByteArray × List Ru × Unit => [.sl 1 (p.1.map encS)] ++ ([.sl 1 (p.2.1.map encS)] ++ ([.sl 2 (p.2.2.1.map encR)] ++ []))) (g := fun g : Gr => (g.terms, g.names, g.rules, ())) (fun p => ⟨p.1, p.2.1, p.2.2.1⟩) (fun _ => rfl) (ti25).und (by kernel_rfl)
  (opensF_cons (m := 1) (f := fun l : List ByteArray => [.sl 1 (l.map encS)]) (f' := fun p : List ByteArray × List Ru × Unit => [.sl 1 (p.1.map encS)] ++ ([.sl 2 (p.2.1.map encR)] ++ [])) (good := goodSs) (good' := fun p : List ByteArray × List Ru × Unit => goodSs p.1 ∧ goodRs p.2.1 ∧ True) rfl (by kernel_rfl) open_strs
   (opensF_cons (m := 1) (f := fun l : List ByteArray => [.sl 1 (l.map encS)]) (f' := fun p : List Ru × Unit => [.sl 2 (p.1.map encR)] ++ []) (good := goodSs) (good' := fun p : List Ru × Unit => goodRs p.1 ∧ True) rfl (by kernel_rfl) open_strs
    (opensF_cons (m := 1) (f := fun l : List Ru => [.sl 2 (l.map encR)]) (f' := fun _ : Unit => []) (good := goodRs) (good' := fun _ => True) rfl (by kernel_rfl) open_rules opensF_nil)))
def goodSp (e : Spot) : Prop := (Lit.int .i64 e.1).wf = true ∧ (Lit.int .i64 e.2).wf = true ∧ True
theorem open_spot : OpensD enc Try.prog w 0 spare held encP 44 goodSp :=
 opensD_struct (good := fun p : Int × Int × Unit => (Lit.int .i64 p.1).wf = true ∧ (Lit.int .i64 p.2.1).wf = true ∧ True) (f := fun p : Int × Int × Unit => [.val (.int .i64 p.1)] ++ ([.val (.int .i64 p.2.1)] ++ [])) (g := fun e : Spot => (e.1, e.2, ())) (fun p => (p.1, p.2.1)) (fun _ => rfl) (ti44).und (by kernel_rfl)
  (opensF_cons (m := 1) (f := fun n : Int => [.val (.int .i64 n)]) (f' := fun p : Int × Unit => [.val (.int .i64 p.1)] ++ []) (good := fun n : Int => (Lit.int .i64 n).wf = true) (good' := fun p : Int × Unit => (Lit.int .i64 p.1).wf = true ∧ True) rfl (by kernel_rfl) open_i64 (opensF_cons (m := 1) (f := fun n : Int => [.val (.int .i64 n)]) (f' := fun _ : Unit => []) (good := fun n : Int => (Lit.int .i64 n).wf = true) (good' := fun _ => True) rfl (by kernel_rfl) open_i64 opensF_nil))
def goodSps (l : List Spot) : Prop := (∀ a ∈ l, goodSp a) ∧ l.length * 16 ≤ reachBytes
theorem open_spots : OpensD enc Try.prog w 0 spare held (fun l : List Spot => [.sl 2 (l.map encP)]) 26 goodSps :=
 opensD_slice TI.und' (by kernel_rfl) (by kernel_rfl) (by kernel_rfl) (by decide) open_spot
end
def Same (g : Gr) (w : List Spot) (a b : Nat) : Prop := a = b ∨ (Hang g w a b ∧ Hang g w b a)
theorem Same.symm {g : Gr} {w : List Spot} {a b : Nat} (h : Same g w a b) : Same g w b a := by
 rcases h with h | h
 ·exact .inl h.symm
 ·exact .inr ⟨h.2, h.1⟩
theorem Same.trans {g : Gr} {w : List Spot} {a b c : Nat} (h : Same g w a b) (k : Same g w b c) : Same g w a c := by
 rcases h with rfl | h
 ·exact k
 ·rcases k with rfl | k
  ·exact .inr h
  ·exact .inr ⟨h.1.trans k.1, k.2.trans h.2⟩
end Go.Proofs.Ytfjfbapiheehaaa.V
end
section
set_option linter.unusedVariables false
set_option linter.unusedSimpArgs false
namespace Go.Proofs.Ytfjfbapiheehaaa.V
open Go Go.RowKit Go.Proofs.Ytfjfbapiheehaaa.DG
noncomputable def eC (g : Gr) (w : List Spot) (so : Pl → Bool) (a : Nat) : Bool := (plOf (stepsOf g w) g.names.length a).any fun p => decide (p.1 = a) && so p
theorem eC_iff (g : Gr) (w : List Spot) (so : Pl → Bool) (a : Nat) : eC g w so a = true ↔ ∃ l r, Loop g w a l r ∧ so (a, l, r) = true := each_iff w so a
end Go.Proofs.Ytfjfbapiheehaaa.V
end
section
set_option linter.unusedVariables false
set_option linter.unusedSimpArgs false
namespace Go.Proofs.Ytfjfbapiheehaaa.V
open Go Go.RowKit Go.Proofs.Ytfjfbapiheehaaa.DG
def bitsK (l r : Bool) : Nat := (if l then 1 else 0) + (if r then 2 else 0)
def kOf (s : Nat × Pl) : Nat := bitsK s.2.2.1 s.2.2.2
theorem bitsK_lt (l r : Bool) : bitsK l r < 4 := by cases l <;> cases r <;> decide
theorem bitsK_or (l r l' r' : Bool) : bitsK (l || l') (r || r') = bitsK l r ||| bitsK l' r' := by cases l <;> cases r <;> cases l' <;> cases r' <;> rfl
theorem or_lt {a b : Nat} (ha : a < 4) (hb : b < 4) : a ||| b < 4 := by
 rcases a with _ | _ | _ | _ | a <;> rcases b with _ | _ | _ | _ | b <;> first | decide | omega
theorem kOf_lt (s : Nat × Pl) : kOf s < 4 := bitsK_lt _ _
theorem bitsK_ex {k : Nat} (h : k < 4) : ∃ l r, bitsK l r = k := by
 rcases k with _ | _ | _ | _ | k
 ·exact ⟨false, false, rfl⟩
 ·exact ⟨true, false, rfl⟩
 ·exact ⟨false, true, rfl⟩
 ·exact ⟨true, true, rfl⟩
 ·omega
theorem bitsK_inj {l r l' r' : Bool} (h : bitsK l r = bitsK l' r') : l = l' ∧ r = r' := by
 cases l <;> cases r <;> cases l' <;> cases r' <;> first | exact ⟨rfl, rfl⟩ | exact absurd h (by decide)
def encW (s : Nat × Pl) : List D := [.val (.int .i64 (s.1 : Int)), .val (.int .i64 (s.2.1 : Int)), .val (.int .i64 (kOf s : Int))]
def encL (l : List Bool) : List D := l.map fun b => .val (.bool b)
theorem encL_get {l : List Bool} {k : Nat} (h : k < l.length) : (encL l)[k]? = some (.val (.bool (l.getD k false))) := by
 unfold encL
 rw [List.getElem?_map, List.getD_eq_getElem?_getD, List.getElem?_eq_getElem h]; rfl
theorem splice_enc {l : List Bool} {k : Nat} {b : Bool} (h : k < l.length) : splice (encL l) k [.val (.bool b)] = encL (l.set k b) := by
 unfold encL splice
 rw [List.map_set]
 apply List.ext_getElem?
 intro i
 rw [List.getElem?_set]
 by_cases hi : k = i
 ·subst hi
  rw [if_pos rfl, if_pos (by rw [List.length_map]; exact h)]
  rw [List.getElem?_append_left (by simp; omega), List.getElem?_append_right (by simp; omega)]
  simp [Nat.min_eq_left (Nat.le_of_lt h)]
 ·rw [if_neg hi]
  rcases Nat.lt_or_gt_of_ne hi with hi | hi
  ·rw [List.getElem?_append_right (by simp; omega), List.getElem?_drop]
   congr 1
   simp; omega
  ·rw [List.getElem?_append_left (by simp; omega), List.getElem?_append_left (by simp; omega), List.getElem?_take_of_lt hi]
abbrev Tab := List (List Bool)
def cellX (xs : Tab) (b k : Nat) : Bool := (xs.getD b []).getD k false
def setX (xs : Tab) (b k : Nat) : Tab := xs.set b ((xs.getD b []).set k true)
structure OkX (n : Nat) (xs : Tab) : Prop where
 len : xs.length = n
 row : ∀ l ∈ xs, l.length = 4
theorem OkX.get {n : Nat} {xs : Tab} (h : OkX n xs) {b : Nat} (hb : b < n) : ∃ u, xs[b]? = some u ∧ u.length = 4 ∧ xs.getD b [] = u := by
 have hb' : b < xs.length := by rw [h.len]; exact hb
 refine ⟨xs[b], List.getElem?_eq_getElem hb', h.row _ (List.getElem_mem hb'), ?_⟩
 rw [List.getD_eq_getElem?_getD, List.getElem?_eq_getElem hb']; rfl
theorem OkX.set {n : Nat} {xs : Tab} (h : OkX n xs) {b k : Nat} (hb : b < n) : OkX n (setX xs b k) := by
 obtain ⟨u, hu, hl, hd⟩ := h.get hb
 refine ⟨by unfold setX; rw [List.length_set]; exact h.len, fun l hm => ?_⟩
 unfold setX at hm
 rcases List.mem_or_eq_of_mem_set hm with hm | hm
 ·exact h.row l hm
 ·rw [hm, List.length_set, hd]; exact hl
theorem cellX_set {n : Nat} {xs : Tab} (h : OkX n xs) {b k : Nat} (hb : b < n) (hk : k < 4) (b' k' : Nat) : cellX (setX xs b k) b' k' = if b' = b ∧ k' = k then true else cellX xs b' k' := by
 obtain ⟨u, hu, hl, hd⟩ := h.get hb
 unfold cellX setX
 rw [List.getD_eq_getElem?_getD (l := xs.set b _), List.getElem?_set]
 by_cases h1 : b = b'
 ·subst h1
  rw [if_pos rfl, if_pos (by rw [h.len]; exact hb), Option.getD_some, hd, List.getD_eq_getElem?_getD, List.getElem?_set]
  by_cases h2 : k = k'
  ·subst h2
   rw [if_pos rfl, if_pos (by omega), if_pos ⟨rfl, rfl⟩]; rfl
  ·rw [if_neg h2, if_neg (fun h => h2 h.2.symm), List.getD_eq_getElem?_getD]
 ·rw [if_neg h1, if_neg (fun h => h1 h.1.symm), ← List.getD_eq_getElem?_getD]
def SoundX (L : List (Nat × Pl)) (a : Nat) (xs : Tab) : Prop := ∀ b l r, cellX xs b (bitsK l r) = true → Tr (Adv L) (a, false, false) (b, l, r)
def InitX (L : List (Nat × Pl)) (a : Nat) (xs : Tab) : Prop := ∀ s ∈ L, s.1 = a → cellX xs s.2.1 (kOf s) = true
def ClosedX (L : List (Nat × Pl)) (xs : Tab) : Prop := ∀ s ∈ L, ∀ k < 4, cellX xs s.1 k = true → cellX xs s.2.1 (k ||| kOf s) = true
theorem SoundX.set {L : List (Nat × Pl)} {n a : Nat} {xs : Tab} (h : SoundX L a xs) (ho : OkX n xs) {s : Nat × Pl} (hs : s ∈ L) (hc : s.2.1 < n) {k : Nat} (hk : k < 4) (hck : cellX xs s.1 k = true) : SoundX L a (setX xs s.2.1 (k ||| kOf s)) := by
 intro b l r hb
 rw [cellX_set ho hc (or_lt hk (kOf_lt s))] at hb
 by_cases e : b = s.2.1 ∧ bitsK l r = k ||| kOf s
 ·obtain ⟨rfl, e⟩ := e
  obtain ⟨l0, r0, rfl⟩ := bitsK_ex hk
  unfold kOf at e
  rw [← bitsK_or] at e
  obtain ⟨rfl, rfl⟩ := bitsK_inj e
  exact .more (h _ _ _ hck) ⟨s, hs, rfl, rfl⟩
 ·rw [if_neg e] at hb
  exact h b l r hb
theorem SoundX.first {L : List (Nat × Pl)} {n : Nat} {xs : Tab} {s : Nat × Pl} (h : SoundX L s.1 xs) (ho : OkX n xs) (hs : s ∈ L) (hc : s.2.1 < n) : SoundX L s.1 (setX xs s.2.1 (kOf s)) := by
 intro b l r hb
 rw [cellX_set ho hc (kOf_lt s)] at hb
 by_cases e : b = s.2.1 ∧ bitsK l r = kOf s
 ·obtain ⟨rfl, e⟩ := e
  obtain ⟨rfl, rfl⟩ := bitsK_inj e
  exact .one ⟨s, hs, rfl, by unfold adv; simp⟩
 ·rw [if_neg e] at hb
  exact h b l r hb
theorem InitX.set {L : List (Nat × Pl)} {n a : Nat} {xs : Tab} (h : InitX L a xs) (ho : OkX n xs) {b k : Nat} (hb : b < n) (hk : k < 4) : InitX L a (setX xs b k) := by
 intro s hs e
 rw [cellX_set ho hb hk]
 split
 ·rfl
 ·exact h s hs e
theorem ways_all {L : List (Nat × Pl)} {a : Nat} {xs : Tab} (hi : InitX L a xs) (hc : ClosedX L xs) {y : Pl} (h : Tr (Adv L) (a, false, false) y) : cellX xs y.1 (bitsK y.2.1 y.2.2) = true := by
 induction h with
 | one e =>
  obtain ⟨s, hs, he, rfl⟩ := e
  have := hi s hs he
  unfold adv
  simpa [kOf] using this
 | more _ e ih =>
  obtain ⟨s, hs, he, rfl⟩ := e
  have := hc s hs _ (bitsK_lt _ _) (by rw [he]; exact ih)
  unfold kOf at this
  rw [← bitsK_or] at this
  exact this
noncomputable def wayB (L : List (Nat × Pl)) (a b k : Nat) : Bool := (Classical.propDecidable (∃ l r, bitsK l r = k ∧ Tr (Adv L) (a, false, false) (b, l, r))).decide
theorem wayB_iff {L : List (Nat × Pl)} {a b k : Nat} : wayB L a b k = true ↔ ∃ l r, bitsK l r = k ∧ Tr (Adv L) (a, false, false) (b, l, r) := by
 unfold wayB
 exact @decide_eq_true_iff _ (Classical.propDecidable _)
noncomputable def wayX (L : List (Nat × Pl)) (n a : Nat) : Tab := (List.range n).map fun b => (List.range 4).map fun k => wayB L a b k
theorem way_is {L : List (Nat × Pl)} {n a : Nat} {xs : Tab} (ho : OkX n xs) (hs : SoundX L a xs) (hi : InitX L a xs) (hc : ClosedX L xs) : xs = wayX L n a := by
 apply List.ext_getElem?
 intro b
 unfold wayX
 by_cases hb : b < n
 ·obtain ⟨u, hu, hl, hd⟩ := ho.get hb
  rw [hu, List.getElem?_map, List.getElem?_range hb, Option.map_some]
  congr 1
  apply List.ext_getElem?
  intro k
  by_cases hk : k < 4
  ·rw [List.getElem?_eq_getElem (by omega), List.getElem?_map, List.getElem?_range hk, Option.map_some]
   congr 1
   have e : u[k] = cellX xs b k := by
    unfold cellX
    rw [hd, List.getD_eq_getElem?_getD, List.getElem?_eq_getElem (by omega)]; rfl
   rw [e, Bool.eq_iff_iff, wayB_iff]
   constructor
   ·intro h
    obtain ⟨l, r, rfl⟩ := bitsK_ex hk
    exact ⟨l, r, rfl, hs _ _ _ h⟩
   ·rintro ⟨l, r, rfl, h⟩
    exact ways_all hi hc h
  ·rw [List.getElem?_eq_none (by omega), List.getElem?_eq_none (by simp; omega)]
 ·rw [List.getElem?_eq_none (by rw [ho.len]; omega), List.getElem?_eq_none (by simp; omega)]
def fX (xs : Tab) : Nat := (xs.map fun l => l.count false).sum
def fW (W : List Tab) : Nat := (W.map fX).sum
theorem sum_set {α : Type} (f : α → Nat) (y : α) : ∀ {l : List α} {i : Nat} {x : α}, l[i]? = some x → ((l.set i y).map f).sum + f x = (l.map f).sum + f y := by
 intro l
 induction l with
 | nil => intro i x h; cases h
 | cons z l ih =>
  intro i x h
  cases i with
  | zero =>
   obtain rfl := Option.some.inj h
   simp only [List.set_cons_zero, List.map_cons, List.sum_cons]; omega
  | succ i =>
   have := ih (show l[i]? = some x from h)
   simp only [List.set_cons_succ, List.map_cons, List.sum_cons]; omega
theorem count_set' : ∀ {l : List Bool} {k : Nat}, l[k]? = some false → (l.set k true).count false + 1 = l.count false := by
 intro l
 induction l with
 | nil => intro k h; cases h
 | cons z l ih =>
  intro k h
  cases k with
  | zero =>
   obtain rfl := Option.some.inj h
   simp
  | succ k =>
   have := ih (show l[k]? = some false from h)
   rw [List.set_cons_succ, List.count_cons, List.count_cons]; omega
theorem fX_set {n : Nat} {xs : Tab} (h : OkX n xs) {b k : Nat} (hb : b < n) (hk : k < 4) (hc : cellX xs b k = false) : fX (setX xs b k) + 1 = fX xs := by
 obtain ⟨u, hu, hl, hd⟩ := h.get hb
 have h1 := sum_set (fun l : List Bool => l.count false) (u.set k true) hu
 have h2 : (u.set k true).count false + 1 = u.count false := count_set' (by
  unfold cellX at hc
  rw [hd, List.getD_eq_getElem?_getD] at hc
  rw [List.getElem?_eq_getElem (by omega)] at hc ⊢
  exact congrArg some hc)
 unfold fX setX
 rw [hd]
 omega
theorem fW_set {W : List Tab} {a : Nat} {x : Tab} (h : W[a]? = some x) (y : Tab) : fW (W.set a y) + fX x = fW W + fX y := sum_set fX y h
structure OkW (L : List (Nat × Pl)) (n : Nat) (W : List Tab) : Prop where
 len : W.length = n
 row : ∀ (a : Nat) (xs : Tab), W[a]? = some xs → OkX n xs ∧ SoundX L a xs
theorem OkW.set {L : List (Nat × Pl)} {n : Nat} {W : List Tab} (h : OkW L n W) {a : Nat} {y : Tab} (ha : a < n) (ho : OkX n y) (hs : SoundX L a y) : OkW L n (W.set a y) := by
 refine ⟨by rw [List.length_set]; exact h.len, fun b xs hb => ?_⟩
 rw [List.getElem?_set] at hb
 by_cases e : a = b
 ·subst e
  rw [if_pos rfl, if_pos (by rw [h.len]; exact ha)] at hb
  obtain rfl := Option.some.inj hb
  exact ⟨ho, hs⟩
 ·rw [if_neg e] at hb
  exact h.row b xs hb
theorem OkW.get {L : List (Nat × Pl)} {n : Nat} {W : List Tab} (h : OkW L n W) {a : Nat} (ha : a < n) : ∃ xs, W[a]? = some xs := ⟨_, List.getElem?_eq_getElem (by rw [h.len]; exact ha)⟩
noncomputable def wayW (L : List (Nat × Pl)) (n : Nat) : List Tab := (List.range n).map fun a => wayX L n a
theorem wayW_is {L : List (Nat × Pl)} {n : Nat} {W : List Tab} (h : OkW L n W) (hi : ∀ (a : Nat) (xs : Tab), W[a]? = some xs → InitX L a xs) (hc : ∀ (a : Nat) (xs : Tab), W[a]? = some xs → ClosedX L xs) : W = wayW L n := by
 apply List.ext_getElem?
 intro a
 unfold wayW
 by_cases ha : a < n
 ·obtain ⟨xs, hx⟩ := h.get ha
  rw [hx, List.getElem?_map, List.getElem?_range ha, Option.map_some, way_is (h.row a xs hx).1 (h.row a xs hx).2 (hi a xs hx) (hc a xs hx)]
 ·rw [List.getElem?_eq_none (by rw [h.len]; omega), List.getElem?_eq_none (by simp; omega)]
def rowF (n : Nat) : Tab := List.replicate n [false, false, false, false]
theorem rowF_ok (n : Nat) : OkX n (rowF n) := ⟨List.length_replicate, fun l h => by rw [List.eq_of_mem_replicate h]; rfl⟩
theorem rowF_cell (n b k : Nat) : cellX (rowF n) b k = false := by
 unfold cellX rowF
 have e : (List.replicate n [false, false, false, false]).getD b [] = if b < n then [false, false, false, false] else [] := by
  rw [List.getD_eq_getElem?_getD, List.getElem?_replicate]
  split <;> rfl
 rw [e]
 split
 ·rcases k with _ | _ | _ | _ | k <;> rfl
 ·rfl
theorem rowF_sound (L : List (Nat × Pl)) (n a : Nat) : SoundX L a (rowF n) := fun b l r h => by rw [rowF_cell] at h; cases h
theorem rowsF_ok (L : List (Nat × Pl)) (n : Nat) : OkW L n (List.replicate n (rowF n)) := ⟨List.length_replicate, fun a xs h => by
 obtain rfl := List.eq_of_mem_replicate (List.mem_of_getElem? h)
 exact ⟨rowF_ok n, rowF_sound L n a⟩⟩
noncomputable def toldB (L : List (Nat × Pl)) (bits a k : Nat) : Bool := (List.range k).any fun j => decide (j &&& bits = bits) && wayB L a a j
theorem told_succ (L : List (Nat × Pl)) (bits a k : Nat) : toldB L bits a (k + 1) = (toldB L bits a k || (decide (k &&& bits = bits) && wayB L a a k)) := by
 unfold toldB
 rw [List.range_succ, List.any_append]; simp
theorem told_iff {g : Gr} {w : List Spot} {bits a : Nat} {so : Pl → Bool} (hso : ∀ l r, (bitsK l r &&& bits = bits) ↔ so (a, l, r) = true) : toldB (stepsOf g w) bits a 4 = eC g w so a := by
 rw [Bool.eq_iff_iff, eC_iff]
 unfold toldB
 rw [List.any_eq_true]
 constructor
 ·rintro ⟨k, hk, h⟩
  rw [Bool.and_eq_true, decide_eq_true_eq, wayB_iff] at h
  obtain ⟨h1, l, r, rfl, h2⟩ := h
  exact ⟨l, r, h2, (hso l r).1 h1⟩
 ·rintro ⟨l, r, h1, h2⟩
  refine ⟨bitsK l r, List.mem_range.2 (bitsK_lt _ _), ?_⟩
  rw [Bool.and_eq_true, decide_eq_true_eq, wayB_iff]
  exact ⟨(hso l r).2 h2, l, r, rfl, h1⟩
theorem told_L (g : Gr) (w : List Spot) (a : Nat) : toldB (stepsOf g w) 1 a 4 = eC g w soL a := told_iff fun l r => by cases l <;> cases r <;> simp [bitsK, soL]
theorem told_R (g : Gr) (w : List Spot) (a : Nat) : toldB (stepsOf g w) 2 a 4 = eC g w soR a := told_iff fun l r => by cases l <;> cases r <;> simp [bitsK, soR]
theorem told_B (g : Gr) (w : List Spot) (a : Nat) : toldB (stepsOf g w) 3 a 4 = eC g w soB a := told_iff fun l r => by cases l <;> cases r <;> simp [bitsK, soB]
end Go.Proofs.Ytfjfbapiheehaaa.V
end

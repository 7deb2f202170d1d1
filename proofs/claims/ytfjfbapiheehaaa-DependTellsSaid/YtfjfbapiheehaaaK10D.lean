/- What D needs of this session's own texts, part 10: put together by wip/dce.py. -/
import Derived.Test.YtfjfbapiheehaaaK9D
section
set_option linter.unusedVariables false
set_option linter.unusedSimpArgs false
namespace Go.Proofs.Ytfjfbapiheehaaa.V
open Go Go.RowKit
theorem lefts_succ {g : Gr} {k : Nat} {r : Ru} (h : g.rules[k]? = some r) : ((g.rules.take (k + 1)).map Ru.left) = (g.rules.take k).map Ru.left ++ [r.left] := by
 rw [List.take_add_one, h, List.map_append]; rfl
theorem rise_step {l : List Int} {n f f' : Int} (hf : rise f l = some f') : rise f (l ++ [n]) = if f' < n then none else some (if n = f' then f' + 1 else f') := by
 rw [rise_append, hf]; simp [rise]
theorem rise_no {a b : List Int} {f : Int} (h : rise f a = none) : rise f (a ++ b) = none := by rw [rise_append, h]; rfl
section
variable {P : Program} {n : Nat} {cx : Cx} {Q : VExit → St → Prop} {st : St}
theorem VCode.thenI {x y : Code} (I : St → Prop) (h : VCode P n cx x (VThen (Less cx I) Q) st) (h2 : ∀ st, I st → VCode P n cx y Q st) : VCode P n cx x (VThen (VCode P n cx y Q) Q) st :=
 h.mono fun e s hq => by
  cases e with
  | normal => exact VCode.less (let ⟨l, s', a, b, c, d⟩ := hq; ⟨l, s', a, b, c, h2 s' d⟩)
  | exit id => exact hq
  | ret => exact hq
  | panic c => exact hq
end
theorem tsyms_lenTo {g : Gr} {k : Nat} (h : ∀ i r, i < k → g.rules[i]? = some r → okRule g i r) : (tsyms g (g.rules.take k)).length ≤ 8 * k := by
 induction k with
 | zero => simp [tsyms]
 | succ k ih =>
  have ih := ih (fun i r hi => h i r (by omega))
  cases hq : g.rules[k]? with
  | none =>
   rw [List.take_add_one, hq]
   simp only [Option.toList_none, List.append_nil]
   omega
  | some r =>
   rw [tsyms_succ hq, List.length_append]
   have h1 := (h k r (by omega) hq).2.2.1
   have h2 := List.length_filter_le (isT g) r.right
   omega
set_option maxHeartbeats 8000000 in
theorem rgood_v (g : Gr) (hg : Sized g) : VCalls Try.prog 26 [gV g] [] 0 (Gives (.val (.bool (decide (GoodG g))))) := by
 have ht := hg.terms
 have hn := hg.names
 have hr := hg.rules
 refine VCalls.enterD (n := 192) Try.func26 rfl rfl (by simp) rfl (fun cx hcx => ?_)
 (repeat (first | ((with_reducible refine VOps.same ?_); (first | (refine VOps.nil ?_; try dsimp only [VThen, VBlock]) | refine VOps.vP (VPure.move rfl rfl) ?_ | refine VOps.vP (VPure.assign rfl rfl) ?_ | refine VOps.vP (VPure.len_map TI.und' rfl rfl) ?_ | refine VOps.vP (VPure.field_ptr rfl rfl rfl) ?_ | refine VOps.vV (VLoad.box1 rfl rfl rfl rfl (by rfl) (by decide)) ?_ | refine VOps.vP (VPure.lss rfl rfl rfl) ?_ | refine VOps.box rfl rfl (by kernel_rfl) rfl rfl rfl rfl ?_)) | refine VCode.seq ?_ | refine VCode.region rfl ?_ | refine VCode.draw [] rfl ?_))
 refine VOps.bool (d := 21) rfl (fun a1 => ?_) (fun a1 => ?_)
 ·(repeat (first | ((with_reducible refine VOps.same ?_); (first | (refine VOps.nil ?_; try dsimp only [VThen, VBlock]) | refine VOps.vP (VPure.move rfl rfl) ?_ | refine VOps.vP (VPure.pick_t rfl rfl rfl) ?_ | refine VOps.passv rfl (by kernel_rfl) rfl ?_))))
  refine VCode.cond_t rfl rfl ?_
  (repeat (first | ((with_reducible refine VOps.same ?_); (first | (refine VOps.nil ?_; try dsimp only [VThen, VBlock]) | refine VOps.vP (VPure.assign rfl rfl) ?_)) | refine VCode.seq ?_ | refine VCode.region rfl ?_))
  refine VCode.retD rfl rfl (.tmp rfl .nil) ?_
  rw [decide_eq_false (p := GoodG g) (fun h => by have := h.names.2.1; have := of_decide_eq_true a1; omega)]; rfl
 have a1 := of_decide_eq_false a1
 (repeat (first | ((with_reducible refine VOps.same ?_); (first | refine VOps.vP (VPure.move rfl rfl) ?_ | refine VOps.vP (VPure.gtr rfl rfl rfl) ?_ | refine VOps.vP (VPure.pick_f rfl rfl rfl) ?_))))
 refine VOps.bool (d := 25) rfl (fun a2 => ?_) (fun a2 => ?_)
 ·(repeat (first | ((with_reducible refine VOps.same ?_); (first | (refine VOps.nil ?_; try dsimp only [VThen, VBlock]) | refine VOps.vP (VPure.move rfl rfl) ?_ | refine VOps.vP (VPure.pick_t rfl rfl rfl) ?_ | refine VOps.passv rfl (by kernel_rfl) rfl ?_))))
  refine VCode.cond_t rfl rfl ?_
  (repeat (first | ((with_reducible refine VOps.same ?_); (first | (refine VOps.nil ?_; try dsimp only [VThen, VBlock]) | refine VOps.vP (VPure.assign rfl rfl) ?_)) | refine VCode.seq ?_ | refine VCode.region rfl ?_))
  refine VCode.retD rfl rfl (.tmp rfl .nil) ?_
  rw [decide_eq_false (p := GoodG g) (fun h => by have := h.names.2.2; have := of_decide_eq_true a2; omega)]; rfl
 have a2 := of_decide_eq_false a2
 (repeat (first | ((with_reducible refine VOps.same ?_); (first | refine VOps.vP (VPure.move rfl rfl) ?_ | refine VOps.vP (VPure.gtr rfl rfl rfl) ?_ | refine VOps.vP (VPure.pick_f rfl rfl rfl) ?_))))
 refine VOps.bool (d := 29) rfl (fun a3 => ?_) (fun a3 => ?_)
 ·(repeat (first | ((with_reducible refine VOps.same ?_); (first | (refine VOps.nil ?_; try dsimp only [VThen, VBlock]) | refine VOps.vP (VPure.move rfl rfl) ?_ | refine VOps.vP (VPure.pick_t rfl rfl rfl) ?_ | refine VOps.passv rfl (by kernel_rfl) rfl ?_))))
  refine VCode.cond_t rfl rfl ?_
  (repeat (first | ((with_reducible refine VOps.same ?_); (first | (refine VOps.nil ?_; try dsimp only [VThen, VBlock]) | refine VOps.vP (VPure.assign rfl rfl) ?_)) | refine VCode.seq ?_ | refine VCode.region rfl ?_))
  refine VCode.retD rfl rfl (.tmp rfl .nil) ?_
  rw [decide_eq_false (p := GoodG g) (fun h => by have := h.terms.2.2; have := of_decide_eq_true a3; omega)]; rfl
 have a3 := of_decide_eq_false a3
 (repeat (first | ((with_reducible refine VOps.same ?_); (first | refine VOps.vP (VPure.move rfl rfl) ?_ | refine VOps.vP (VPure.len_map TI.und' rfl rfl) ?_ | refine VOps.vP (VPure.field_ptr rfl rfl rfl) ?_ | refine VOps.vV (VLoad.box1 rfl rfl rfl rfl (by rfl) (by decide)) ?_ | refine VOps.vP (VPure.lss rfl rfl rfl) ?_ | refine VOps.vP (VPure.pick_f rfl rfl rfl) ?_))))
 refine VOps.bool (d := 35) rfl (fun a4 => ?_) (fun a4 => ?_)
 ·(repeat (first | ((with_reducible refine VOps.same ?_); (first | (refine VOps.nil ?_; try dsimp only [VThen, VBlock]) | refine VOps.vP (VPure.pick_t rfl rfl rfl) ?_ | refine VOps.passv rfl (by kernel_rfl) rfl ?_))))
  refine VCode.cond_t rfl rfl ?_
  (repeat (first | ((with_reducible refine VOps.same ?_); (first | (refine VOps.nil ?_; try dsimp only [VThen, VBlock]) | refine VOps.vP (VPure.assign rfl rfl) ?_)) | refine VCode.seq ?_ | refine VCode.region rfl ?_))
  refine VCode.retD rfl rfl (.tmp rfl .nil) ?_
  rw [decide_eq_false (p := GoodG g) (fun h => by have := h.rules.1; have := of_decide_eq_true a4; omega)]; rfl
 have a4 := of_decide_eq_false a4
 (repeat (first | ((with_reducible refine VOps.same ?_); (first | (refine VOps.nil ?_; try dsimp only [VThen, VBlock]) | refine VOps.vP (VPure.len_map TI.und' rfl rfl) ?_ | refine VOps.vP (VPure.field_ptr rfl rfl rfl) ?_ | refine VOps.vV (VLoad.box1 rfl rfl rfl rfl (by rfl) (by decide)) ?_ | refine VOps.vP (VPure.gtr rfl rfl rfl) ?_ | refine VOps.vP (VPure.pick_f rfl rfl rfl) ?_))))
 refine VCode.cond rfl (fun a5 => ?_) (fun a5 => ?_)
 ·(repeat (first | ((with_reducible refine VOps.same ?_); (first | (refine VOps.nil ?_; try dsimp only [VThen, VBlock]) | refine VOps.vP (VPure.assign rfl rfl) ?_)) | refine VCode.seq ?_ | refine VCode.region rfl ?_))
  refine VCode.retD rfl rfl (.tmp rfl .nil) ?_
  rw [decide_eq_false (p := GoodG g) (fun h => by have := h.rules.2.1; have := of_decide_eq_true a5; omega)]; rfl
 have a5 := of_decide_eq_false a5
 (repeat (first | ((with_reducible refine VOps.same ?_); (first | (refine VOps.nil ?_; try dsimp only [VThen, VBlock]) | refine VOps.vP (VPure.assign rfl rfl) ?_)) | refine VCode.seq ?_ | refine VCode.region rfl ?_ | refine VCode.block ?_ | refine VCode.skip ?_))
 refine VCode.loop (fun m st => ∃ k : Nat, k ≤ g.names.length ∧ m = g.names.length - k ∧ okTo isName g.names k ∧ st = ⟨[(5, .val (.int .i64 (k : Int))), (4, .val (.int .i64 (g.names.length : Int))), (3, .val (.int .i64 (g.terms.length : Int))), (1, .ptr 0 0)], [(0, gO g)], 1⟩) g.names.length ?_ ?_
 ·(refine Less.mk (l := [0]) hcx ?ss ?hh rfl (by decide) rfl ⟨0, by omega, by omega, okTo_zero _ _, rfl⟩; (case ss => repeat (first | exact SubS.nil | refine SubS.cons rfl rfl ?_ | refine SubS.cons (ciI (by omega)) rfl ?_ | refine SubS.cons (ciB (by assumption)) rfl ?_)); (case hh => repeat (first | exact SubH.nil | refine SubH.cons rfl rfl rfl ?_)))
 rintro m st ⟨k, hk, rfl, hb, rfl⟩
 cases hq : g.names[k]? with
 | some y =>
  have hlt : k < g.names.length := (List.getElem?_eq_some_iff.1 hq).1
  have hy := hg.nsize y (List.mem_of_getElem? hq)
  (repeat (first | ((with_reducible refine VOps.same ?_); (first | (refine VOps.nil ?_; try dsimp only [VThen, VBlock]) | refine VOps.vP (VPure.move rfl rfl) ?_ | refine VOps.vP (VPure.lss rfl rfl rfl) ?_)) | refine VCode.seq ?_ | refine VCode.region rfl ?_))
  refine VCode.cond_t rfl (decide_eq_true (by omega)) ?_
  cases b1 : isName y with
  | false =>
   (repeat (first | ((with_reducible refine VOps.same ?_); (first | refine VOps.vP (VPure.move rfl rfl) ?_ | refine VOps.vP (VPure.idx_map rfl rfl rfl (by assumption)) ?_ | refine VOps.vP (VPure.field_ptr rfl rfl rfl) ?_ | refine VOps.vV (VLoad.el1 rfl rfl rfl (by rfl)) ?_ | refine VOps.vV (VLoad.box1 rfl rfl rfl rfl (by rfl) (by decide)) ?_)) | refine VCode.seq ?_ | refine VCode.draw [] rfl ?_ | refine VCode.block ?_ | refine VCode.skip ?_))
   refine VOps.pure rfl Try.func43 rfl (by kernel_rfl) rfl rfl rfl rfl rfl rfl rfl ((by have := rname_v y hy; rw [b1] at this; exact this)) ?_
   (repeat (first | ((with_reducible refine VOps.same ?_); (first | (refine VOps.nil ?_; try dsimp only [VThen, VBlock]) | refine VOps.vP (VPure.move rfl rfl) ?_ | refine VOps.vP (VPure.not rfl rfl) ?_ | refine VOps.vP (VPure.pick_t rfl rfl rfl) ?_ | refine VOps.passv rfl (by kernel_rfl) rfl ?_))))
   refine VCode.cond_t rfl rfl ?_
   (repeat (first | ((with_reducible refine VOps.same ?_); (first | (refine VOps.nil ?_; try dsimp only [VThen, VBlock]) | refine VOps.vP (VPure.assign rfl rfl) ?_)) | refine VCode.seq ?_ | refine VCode.region rfl ?_))
   refine VCode.retD rfl rfl (.tmp rfl .nil) ?_
   rw [decide_eq_false (p := GoodG g) (fun h => by rw [(h.names.1 k y hq).1] at b1; cases b1)]; rfl
  | true =>
   (repeat (first | refine VCode.seq ?_ | refine VCode.block ?_ | refine VCode.skip ?_))
   refine VCode.thenTo ⟨[(64, .val (.bool (!decide (firstAt (fun x => decide (x = y)) g.names = (k : Int))))), (5, .val (.int .i64 (k : Int))), (4, .val (.int .i64 (g.names.length : Int))), (3, .val (.int .i64 (g.terms.length : Int))), (1, .ptr 0 0)], [(0, gO g)], 1⟩ ?_ ?_
   ·refine VCode.drawAny [] (by kernel_rfl) rfl ?_
    refine VAny.pureI (i := 0) rfl rfl (by kernel_rfl) rfl (VPure.field_ptr rfl rfl rfl) ?_
    refine VAny.loadI (i := 1) rfl rfl (by kernel_rfl) rfl (VLoad.box1 rfl rfl rfl rfl (by rfl) (by decide)) ?_
    refine VAny.pureI (i := 2) rfl rfl (by kernel_rfl) rfl (VPure.move rfl rfl) ?_
    refine VAny.pureI (i := 3) rfl rfl (by kernel_rfl) rfl (VPure.idx_map rfl rfl rfl (by assumption)) ?_
    refine VAny.loadI (i := 4) rfl rfl (by kernel_rfl) rfl (VLoad.el1 rfl rfl rfl (by rfl)) ?_
    refine VAny.movesI (is := [5]) (by kernel_rfl) (by simp) rfl (all1 ?_)
    ·refine VMv.pure rfl rfl Try.func43 rfl rfl rfl rfl rfl rfl rfl rfl ((by have := rname_v y hy; rw [b1] at this; exact this)) ?_
     refine VAny.pureI (i := 6) rfl rfl (by kernel_rfl) rfl (VPure.not rfl rfl) ?_
     refine VAny.pureI (i := 7) rfl rfl (by kernel_rfl) rfl (VPure.move rfl rfl) ?_
     refine VAny.pureI (i := 8) rfl rfl (by kernel_rfl) rfl (VPure.field_ptr rfl rfl rfl) ?_
     refine VAny.pureI (i := 10) rfl rfl (by kernel_rfl) rfl (VPure.field_ptr rfl rfl rfl) ?_
     refine VAny.pureI (i := 12) rfl rfl (by kernel_rfl) rfl (VPure.move rfl rfl) ?_
     refine VAny.pureI (i := 16) rfl rfl (by kernel_rfl) rfl (VPure.move rfl rfl) ?_
     refine VAny.movesI (is := [9, 11]) (by kernel_rfl) (by simp) rfl (allC ?_ (all1 ?_))
     ·refine VMv.load rfl rfl rfl (VLoad.box1 rfl rfl rfl rfl (by rfl) (by decide)) ?_
      refine VAny.movesI (is := [11]) (by kernel_rfl) (by simp) rfl (all1 ?_)
      ·refine VMv.load rfl rfl rfl (VLoad.box1 rfl rfl rfl rfl (by rfl) (by decide)) ?_
       refine VAny.pureI (i := 13) rfl rfl (by kernel_rfl) rfl (VPure.idx_map rfl rfl rfl (by assumption)) ?_
       refine VAny.movesI (is := [14]) (by kernel_rfl) (by simp) rfl (all1 ?_)
       ·refine VMv.load rfl rfl rfl (VLoad.el1 rfl rfl rfl (by rfl)) ?_
        refine VAny.movesI (is := [15]) (by kernel_rfl) (by simp) rfl (all1 ?_)
        ·refine VMv.pure rfl rfl Try.func44 rfl rfl rfl rfl rfl rfl rfl rfl (at_v g.names y (by omega)) ?_
         refine VAny.pureI (i := 17) rfl rfl (by kernel_rfl) rfl (VPure.nei rfl rfl rfl) ?_
         refine VAny.pureI (i := 18) rfl rfl (by kernel_rfl) rfl (VPure.pick_f rfl rfl rfl) ?_
         refine VAny.done ?_
         (refine Less.mk (l := [0]) hcx ?ss ?hh rfl (by decide) rfl rfl; (case ss => repeat (first | exact SubS.nil | refine SubS.cons rfl rfl ?_ | refine SubS.cons (ciI (by omega)) rfl ?_ | refine SubS.cons (ciB (by assumption)) rfl ?_)); (case hh => repeat (first | exact SubH.nil | refine SubH.cons rfl rfl rfl ?_)))
     ·refine VMv.load rfl rfl rfl (VLoad.box1 rfl rfl rfl rfl (by rfl) (by decide)) ?_
      refine VAny.pureI (i := 13) rfl rfl (by kernel_rfl) rfl (VPure.idx_map rfl rfl rfl (by assumption)) ?_
      refine VAny.movesI (is := [9, 14]) (by kernel_rfl) (by simp) rfl (allC ?_ (all1 ?_))
      ·refine VMv.load rfl rfl rfl (VLoad.box1 rfl rfl rfl rfl (by rfl) (by decide)) ?_
       refine VAny.movesI (is := [14]) (by kernel_rfl) (by simp) rfl (all1 ?_)
       ·refine VMv.load rfl rfl rfl (VLoad.el1 rfl rfl rfl (by rfl)) ?_
        refine VAny.movesI (is := [15]) (by kernel_rfl) (by simp) rfl (all1 ?_)
        ·refine VMv.pure rfl rfl Try.func44 rfl rfl rfl rfl rfl rfl rfl rfl (at_v g.names y (by omega)) ?_
         refine VAny.pureI (i := 17) rfl rfl (by kernel_rfl) rfl (VPure.nei rfl rfl rfl) ?_
         refine VAny.pureI (i := 18) rfl rfl (by kernel_rfl) rfl (VPure.pick_f rfl rfl rfl) ?_
         refine VAny.done ?_
         (refine Less.mk (l := [0]) hcx ?ss ?hh rfl (by decide) rfl rfl; (case ss => repeat (first | exact SubS.nil | refine SubS.cons rfl rfl ?_ | refine SubS.cons (ciI (by omega)) rfl ?_ | refine SubS.cons (ciB (by assumption)) rfl ?_)); (case hh => repeat (first | exact SubH.nil | refine SubH.cons rfl rfl rfl ?_)))
      ·refine VMv.load rfl rfl rfl (VLoad.el1 rfl rfl rfl (by rfl)) ?_
       refine VAny.movesI (is := [9]) (by kernel_rfl) (by simp) rfl (all1 ?_)
       ·refine VMv.load rfl rfl rfl (VLoad.box1 rfl rfl rfl rfl (by rfl) (by decide)) ?_
        refine VAny.movesI (is := [15]) (by kernel_rfl) (by simp) rfl (all1 ?_)
        ·refine VMv.pure rfl rfl Try.func44 rfl rfl rfl rfl rfl rfl rfl rfl (at_v g.names y (by omega)) ?_
         refine VAny.pureI (i := 17) rfl rfl (by kernel_rfl) rfl (VPure.nei rfl rfl rfl) ?_
         refine VAny.pureI (i := 18) rfl rfl (by kernel_rfl) rfl (VPure.pick_f rfl rfl rfl) ?_
         refine VAny.done ?_
         (refine Less.mk (l := [0]) hcx ?ss ?hh rfl (by decide) rfl rfl; (case ss => repeat (first | exact SubS.nil | refine SubS.cons rfl rfl ?_ | refine SubS.cons (ciI (by omega)) rfl ?_ | refine SubS.cons (ciB (by assumption)) rfl ?_)); (case hh => repeat (first | exact SubH.nil | refine SubH.cons rfl rfl rfl ?_)))
   refine VCode.cond rfl (fun b2 => ?_) (fun b2 => ?_)
   ·(repeat (first | ((with_reducible refine VOps.same ?_); (first | (refine VOps.nil ?_; try dsimp only [VThen, VBlock]) | refine VOps.vP (VPure.assign rfl rfl) ?_)) | refine VCode.seq ?_ | refine VCode.region rfl ?_))
    refine VCode.retD rfl rfl (.tmp rfl .nil) ?_
    rw [decide_eq_false (p := GoodG g) (fun h => by rw [(at_first hq).2 (h.names.1 k y hq).2] at b2; simp at b2)]; rfl
   have b2 : firstAt (fun x => decide (x = y)) g.names = (k : Int) := by simpa using b2
   (repeat (first | ((with_reducible refine VOps.same ?_); (first | (refine VOps.nil ?_; try dsimp only [VThen, VBlock]) | refine VOps.vP (VPure.move rfl rfl) ?_ | refine VOps.vP (VPure.assign rfl rfl) ?_ | refine VOps.vP (VPure.addK rfl rfl rfl (by omega)) ?_)) | refine VCode.region rfl ?_ | refine VCode.skip ?_))
   (refine Less.mk (l := [0]) hcx ?ss ?hh rfl (by decide) rfl ⟨_, ?_, k + 1, by omega, rfl, hb.step hq b1 ((at_first hq).1 b2), rfl⟩; (case ss => repeat (first | exact SubS.nil | refine SubS.cons rfl rfl ?_ | refine SubS.cons (ciI (by omega)) rfl ?_ | refine SubS.cons (ciB (by assumption)) rfl ?_)); (case hh => repeat (first | exact SubH.nil | refine SubH.cons rfl rfl rfl ?_)))
   omega
 | none =>
  have hge : g.names.length ≤ k := List.getElem?_eq_none_iff.1 hq
  have ok_names := hb.full hge
  clear hb hq hk
  (repeat (first | ((with_reducible refine VOps.same ?_); (first | (refine VOps.nil ?_; try dsimp only [VThen, VBlock]) | refine VOps.vP (VPure.move rfl rfl) ?_ | refine VOps.vP (VPure.lss rfl rfl rfl) ?_)) | refine VCode.seq ?_ | refine VCode.region rfl ?_))
  refine VCode.cond_f rfl (decide_eq_false (by omega)) ?_
  (repeat (first | ((with_reducible refine VOps.same ?_); (first | (refine VOps.nil ?_; try dsimp only [VThen, VBlock]) | refine VOps.vP (VPure.assign rfl rfl) ?_)) | refine VCode.seq ?_ | refine VCode.region rfl ?_ | refine VCode.block ?_ | refine VCode.exit ?_))
  refine VCode.loop (fun m st => ∃ k : Nat, k ≤ g.terms.length ∧ m = g.terms.length - k ∧ okTo isTerm g.terms k ∧ st = ⟨[(6, .val (.int .i64 (k : Int))), (4, .val (.int .i64 (g.names.length : Int))), (3, .val (.int .i64 (g.terms.length : Int))), (1, .ptr 0 0)], [(0, gO g)], 1⟩) g.terms.length ?_ ?_
  ·(refine Less.mk (l := [0]) hcx ?ss ?hh rfl (by decide) rfl ⟨0, by omega, by omega, okTo_zero _ _, rfl⟩; (case ss => repeat (first | exact SubS.nil | refine SubS.cons rfl rfl ?_ | refine SubS.cons (ciI (by omega)) rfl ?_ | refine SubS.cons (ciB (by assumption)) rfl ?_)); (case hh => repeat (first | exact SubH.nil | refine SubH.cons rfl rfl rfl ?_)))
  rintro m st ⟨k, hk, rfl, hb, rfl⟩
  cases hq : g.terms[k]? with
  | some y =>
   have hlt : k < g.terms.length := (List.getElem?_eq_some_iff.1 hq).1
   have hy := hg.tsize y (List.mem_of_getElem? hq)
   (repeat (first | ((with_reducible refine VOps.same ?_); (first | (refine VOps.nil ?_; try dsimp only [VThen, VBlock]) | refine VOps.vP (VPure.move rfl rfl) ?_ | refine VOps.vP (VPure.lss rfl rfl rfl) ?_)) | refine VCode.seq ?_ | refine VCode.region rfl ?_))
   refine VCode.cond_t rfl (decide_eq_true (by omega)) ?_
   cases b1 : isTerm y with
   | false =>
    (repeat (first | ((with_reducible refine VOps.same ?_); (first | refine VOps.vP (VPure.move rfl rfl) ?_ | refine VOps.vP (VPure.idx_map rfl rfl rfl (by assumption)) ?_ | refine VOps.vP (VPure.field_ptr rfl rfl rfl) ?_ | refine VOps.vV (VLoad.el1 rfl rfl rfl (by rfl)) ?_ | refine VOps.vV (VLoad.box1 rfl rfl rfl rfl (by rfl) (by decide)) ?_)) | refine VCode.seq ?_ | refine VCode.draw [] rfl ?_ | refine VCode.block ?_ | refine VCode.skip ?_))
    refine VOps.pure rfl Try.func45 rfl (by kernel_rfl) rfl rfl rfl rfl rfl rfl rfl ((by have := rterm_v y hy; rw [b1] at this; exact this)) ?_
    (repeat (first | ((with_reducible refine VOps.same ?_); (first | (refine VOps.nil ?_; try dsimp only [VThen, VBlock]) | refine VOps.vP (VPure.move rfl rfl) ?_ | refine VOps.vP (VPure.not rfl rfl) ?_ | refine VOps.vP (VPure.pick_t rfl rfl rfl) ?_ | refine VOps.passv rfl (by kernel_rfl) rfl ?_))))
    refine VCode.cond_t rfl rfl ?_
    (repeat (first | ((with_reducible refine VOps.same ?_); (first | (refine VOps.nil ?_; try dsimp only [VThen, VBlock]) | refine VOps.vP (VPure.assign rfl rfl) ?_)) | refine VCode.seq ?_ | refine VCode.region rfl ?_))
    refine VCode.retD rfl rfl (.tmp rfl .nil) ?_
    rw [decide_eq_false (p := GoodG g) (fun h => by rw [(h.terms.1 k y hq).1] at b1; cases b1)]; rfl
   | true =>
    (repeat (first | refine VCode.seq ?_ | refine VCode.block ?_ | refine VCode.skip ?_))
    refine VCode.thenTo ⟨[(88, .val (.bool (!decide (firstAt (fun x => decide (x = y)) g.terms = (k : Int))))), (6, .val (.int .i64 (k : Int))), (4, .val (.int .i64 (g.names.length : Int))), (3, .val (.int .i64 (g.terms.length : Int))), (1, .ptr 0 0)], [(0, gO g)], 1⟩ ?_ ?_
    ·refine VCode.drawAny [] (by kernel_rfl) rfl ?_
     refine VAny.pureI (i := 0) rfl rfl (by kernel_rfl) rfl (VPure.field_ptr rfl rfl rfl) ?_
     refine VAny.loadI (i := 1) rfl rfl (by kernel_rfl) rfl (VLoad.box1 rfl rfl rfl rfl (by rfl) (by decide)) ?_
     refine VAny.pureI (i := 2) rfl rfl (by kernel_rfl) rfl (VPure.move rfl rfl) ?_
     refine VAny.pureI (i := 3) rfl rfl (by kernel_rfl) rfl (VPure.idx_map rfl rfl rfl (by assumption)) ?_
     refine VAny.loadI (i := 4) rfl rfl (by kernel_rfl) rfl (VLoad.el1 rfl rfl rfl (by rfl)) ?_
     refine VAny.movesI (is := [5]) (by kernel_rfl) (by simp) rfl (all1 ?_)
     ·refine VMv.pure rfl rfl Try.func45 rfl rfl rfl rfl rfl rfl rfl rfl ((by have := rterm_v y hy; rw [b1] at this; exact this)) ?_
      refine VAny.pureI (i := 6) rfl rfl (by kernel_rfl) rfl (VPure.not rfl rfl) ?_
      refine VAny.pureI (i := 7) rfl rfl (by kernel_rfl) rfl (VPure.move rfl rfl) ?_
      refine VAny.pureI (i := 8) rfl rfl (by kernel_rfl) rfl (VPure.field_ptr rfl rfl rfl) ?_
      refine VAny.pureI (i := 10) rfl rfl (by kernel_rfl) rfl (VPure.field_ptr rfl rfl rfl) ?_
      refine VAny.pureI (i := 12) rfl rfl (by kernel_rfl) rfl (VPure.move rfl rfl) ?_
      refine VAny.pureI (i := 16) rfl rfl (by kernel_rfl) rfl (VPure.move rfl rfl) ?_
      refine VAny.movesI (is := [9, 11]) (by kernel_rfl) (by simp) rfl (allC ?_ (all1 ?_))
      ·refine VMv.load rfl rfl rfl (VLoad.box1 rfl rfl rfl rfl (by rfl) (by decide)) ?_
       refine VAny.movesI (is := [11]) (by kernel_rfl) (by simp) rfl (all1 ?_)
       ·refine VMv.load rfl rfl rfl (VLoad.box1 rfl rfl rfl rfl (by rfl) (by decide)) ?_
        refine VAny.pureI (i := 13) rfl rfl (by kernel_rfl) rfl (VPure.idx_map rfl rfl rfl (by assumption)) ?_
        refine VAny.movesI (is := [14]) (by kernel_rfl) (by simp) rfl (all1 ?_)
        ·refine VMv.load rfl rfl rfl (VLoad.el1 rfl rfl rfl (by rfl)) ?_
         refine VAny.movesI (is := [15]) (by kernel_rfl) (by simp) rfl (all1 ?_)
         ·refine VMv.pure rfl rfl Try.func44 rfl rfl rfl rfl rfl rfl rfl rfl (at_v g.terms y (by omega)) ?_
          refine VAny.pureI (i := 17) rfl rfl (by kernel_rfl) rfl (VPure.nei rfl rfl rfl) ?_
          refine VAny.pureI (i := 18) rfl rfl (by kernel_rfl) rfl (VPure.pick_f rfl rfl rfl) ?_
          refine VAny.done ?_
          (refine Less.mk (l := [0]) hcx ?ss ?hh rfl (by decide) rfl rfl; (case ss => repeat (first | exact SubS.nil | refine SubS.cons rfl rfl ?_ | refine SubS.cons (ciI (by omega)) rfl ?_ | refine SubS.cons (ciB (by assumption)) rfl ?_)); (case hh => repeat (first | exact SubH.nil | refine SubH.cons rfl rfl rfl ?_)))
      ·refine VMv.load rfl rfl rfl (VLoad.box1 rfl rfl rfl rfl (by rfl) (by decide)) ?_
       refine VAny.pureI (i := 13) rfl rfl (by kernel_rfl) rfl (VPure.idx_map rfl rfl rfl (by assumption)) ?_
       refine VAny.movesI (is := [9, 14]) (by kernel_rfl) (by simp) rfl (allC ?_ (all1 ?_))
       ·refine VMv.load rfl rfl rfl (VLoad.box1 rfl rfl rfl rfl (by rfl) (by decide)) ?_
        refine VAny.movesI (is := [14]) (by kernel_rfl) (by simp) rfl (all1 ?_)
        ·refine VMv.load rfl rfl rfl (VLoad.el1 rfl rfl rfl (by rfl)) ?_
         refine VAny.movesI (is := [15]) (by kernel_rfl) (by simp) rfl (all1 ?_)
         ·refine VMv.pure rfl rfl Try.func44 rfl rfl rfl rfl rfl rfl rfl rfl (at_v g.terms y (by omega)) ?_
          refine VAny.pureI (i := 17) rfl rfl (by kernel_rfl) rfl (VPure.nei rfl rfl rfl) ?_
          refine VAny.pureI (i := 18) rfl rfl (by kernel_rfl) rfl (VPure.pick_f rfl rfl rfl) ?_
          refine VAny.done ?_
          (refine Less.mk (l := [0]) hcx ?ss ?hh rfl (by decide) rfl rfl; (case ss => repeat (first | exact SubS.nil | refine SubS.cons rfl rfl ?_ | refine SubS.cons (ciI (by omega)) rfl ?_ | refine SubS.cons (ciB (by assumption)) rfl ?_)); (case hh => repeat (first | exact SubH.nil | refine SubH.cons rfl rfl rfl ?_)))
       ·refine VMv.load rfl rfl rfl (VLoad.el1 rfl rfl rfl (by rfl)) ?_
        refine VAny.movesI (is := [9]) (by kernel_rfl) (by simp) rfl (all1 ?_)
        ·refine VMv.load rfl rfl rfl (VLoad.box1 rfl rfl rfl rfl (by rfl) (by decide)) ?_
         refine VAny.movesI (is := [15]) (by kernel_rfl) (by simp) rfl (all1 ?_)
         ·refine VMv.pure rfl rfl Try.func44 rfl rfl rfl rfl rfl rfl rfl rfl (at_v g.terms y (by omega)) ?_
          refine VAny.pureI (i := 17) rfl rfl (by kernel_rfl) rfl (VPure.nei rfl rfl rfl) ?_
          refine VAny.pureI (i := 18) rfl rfl (by kernel_rfl) rfl (VPure.pick_f rfl rfl rfl) ?_
          refine VAny.done ?_
          (refine Less.mk (l := [0]) hcx ?ss ?hh rfl (by decide) rfl rfl; (case ss => repeat (first | exact SubS.nil | refine SubS.cons rfl rfl ?_ | refine SubS.cons (ciI (by omega)) rfl ?_ | refine SubS.cons (ciB (by assumption)) rfl ?_)); (case hh => repeat (first | exact SubH.nil | refine SubH.cons rfl rfl rfl ?_)))
    refine VCode.cond rfl (fun b2 => ?_) (fun b2 => ?_)
    ·(repeat (first | ((with_reducible refine VOps.same ?_); (first | (refine VOps.nil ?_; try dsimp only [VThen, VBlock]) | refine VOps.vP (VPure.assign rfl rfl) ?_)) | refine VCode.seq ?_ | refine VCode.region rfl ?_))
     refine VCode.retD rfl rfl (.tmp rfl .nil) ?_
     rw [decide_eq_false (p := GoodG g) (fun h => by rw [(at_first hq).2 (h.terms.1 k y hq).2] at b2; simp at b2)]; rfl
    have b2 : firstAt (fun x => decide (x = y)) g.terms = (k : Int) := by simpa using b2
    (repeat (first | ((with_reducible refine VOps.same ?_); (first | (refine VOps.nil ?_; try dsimp only [VThen, VBlock]) | refine VOps.vP (VPure.move rfl rfl) ?_ | refine VOps.vP (VPure.assign rfl rfl) ?_ | refine VOps.vP (VPure.addK rfl rfl rfl (by omega)) ?_)) | refine VCode.region rfl ?_ | refine VCode.skip ?_))
    (refine Less.mk (l := [0]) hcx ?ss ?hh rfl (by decide) rfl ⟨_, ?_, k + 1, by omega, rfl, hb.step hq b1 ((at_first hq).1 b2), rfl⟩; (case ss => repeat (first | exact SubS.nil | refine SubS.cons rfl rfl ?_ | refine SubS.cons (ciI (by omega)) rfl ?_ | refine SubS.cons (ciB (by assumption)) rfl ?_)); (case hh => repeat (first | exact SubH.nil | refine SubH.cons rfl rfl rfl ?_)))
    omega
  | none =>
   have hge : g.terms.length ≤ k := List.getElem?_eq_none_iff.1 hq
   have ok_terms := hb.full hge
   clear hb hq hk
   (repeat (first | ((with_reducible refine VOps.same ?_); (first | (refine VOps.nil ?_; try dsimp only [VThen, VBlock]) | refine VOps.vP (VPure.move rfl rfl) ?_ | refine VOps.vP (VPure.lss rfl rfl rfl) ?_)) | refine VCode.seq ?_ | refine VCode.region rfl ?_))
   refine VCode.cond_f rfl (decide_eq_false (by omega)) ?_
   (repeat (first | ((with_reducible refine VOps.same ?_); (first | (refine VOps.nil ?_; try dsimp only [VThen, VBlock]) | refine VOps.vP (VPure.assign rfl rfl) ?_)) | refine VCode.seq ?_ | refine VCode.region rfl ?_ | refine VCode.block ?_ | refine VCode.exit ?_))
   refine VCode.loop (fun m st => ∃ (k : Nat) (a b : Int), k ≤ g.rules.length ∧ m = g.rules.length - k ∧ (∀ i r, i < k → g.rules[i]? = some r → okRule g i r) ∧ rise (g.terms.length : Int) ((g.rules.take k).map Ru.left) = some ((g.terms.length : Int) + a) ∧ rise 0 (tsyms g (g.rules.take k)) = some b ∧ st = ⟨[(9, .val (.int .i64 (k : Int))), (7, .val (.int .i64 a)), (8, .val (.int .i64 b)), (4, .val (.int .i64 (g.names.length : Int))), (3, .val (.int .i64 (g.terms.length : Int))), (1, .ptr 0 0)], [(0, gO g)], 1⟩) g.rules.length ?_ ?_
   ·(refine Less.mk (l := [0]) hcx ?ss ?hh rfl (by decide) rfl ⟨0, 0, 0, by omega, by omega, fun i r h => by omega, by simp [rise], rfl, rfl⟩; (case ss => repeat (first | exact SubS.nil | refine SubS.cons rfl rfl ?_ | refine SubS.cons (ciI (by omega)) rfl ?_ | refine SubS.cons (ciB (by assumption)) rfl ?_)); (case hh => repeat (first | exact SubH.nil | refine SubH.cons rfl rfl rfl ?_)))
   rintro m st ⟨k, a, b, hk, rfl, hb, hra, hrb, rfl⟩
   have hla := rise_le hra
   have hlb := rise_le hrb
   have hlen : ((g.rules.take k).map Ru.left).length ≤ 60 := by rw [List.length_map, List.length_take]; omega
   have hsl : (tsyms g (g.rules.take k)).length ≤ 8 * k := tsyms_lenTo hb
   cases hq : g.rules[k]? with
   | some r =>
    have hlt : k < g.rules.length := (List.getElem?_eq_some_iff.1 hq).1
    have hrr := hg.rights r (List.mem_of_getElem? hq)
    have hls := lefts_succ hq
    have hts := tsyms_succ hq
    have hall : g.rules.map Ru.left = (g.rules.take (k + 1)).map Ru.left ++ (g.rules.drop (k + 1)).map Ru.left := by rw [← List.map_append, List.take_append_drop]
    have hst := rise_step (n := r.left) hra
    (repeat (first | ((with_reducible refine VOps.same ?_); (first | (refine VOps.nil ?_; try dsimp only [VThen, VBlock]) | refine VOps.vP (VPure.move rfl rfl) ?_ | refine VOps.vP (VPure.len_map TI.und' rfl rfl) ?_ | refine VOps.vP (VPure.field_ptr rfl rfl rfl) ?_ | refine VOps.vV (VLoad.box1 rfl rfl rfl rfl (by rfl) (by decide)) ?_ | refine VOps.vP (VPure.lss rfl rfl rfl) ?_)) | refine VCode.seq ?_ | refine VCode.region rfl ?_))
    refine VCode.cond_t rfl (decide_eq_true (by omega)) ?_
    (repeat (first | ((with_reducible refine VOps.same ?_); (first | (refine VOps.nil ?_; try dsimp only [VThen, VBlock]) | refine VOps.vP (VPure.move rfl rfl) ?_ | refine VOps.vP (VPure.idx_map rfl rfl rfl (by assumption)) ?_ | refine VOps.vP (VPure.field_ptr rfl rfl rfl) ?_ | refine VOps.vV (VLoad.box1 rfl rfl rfl rfl (by rfl) (by decide)) ?_ | refine VOps.vV (VLoad.elA rfl rfl (by rfl) (leR (by rfl))) ?_ | refine VOps.vP (VPure.lss rfl rfl rfl) ?_ | refine VOps.alloc rfl rfl (by kernel_rfl) rfl (by kernel_rfl) rfl ?_ | refine VOps.store rfl rfl (by kernel_rfl) rfl rfl rfl rfl rfl rfl (leR (by rfl)) rfl ?_)) | refine VCode.seq ?_ | refine VCode.region rfl ?_ | refine VCode.draw [] rfl ?_ | refine VCode.block ?_ | refine VCode.skip ?_))
    refine VOps.bool (d := 105) rfl (fun c1 => ?_) (fun c1 => ?_)
    ·(repeat (first | ((with_reducible refine VOps.same ?_); (first | (refine VOps.nil ?_; try dsimp only [VThen, VBlock]) | refine VOps.vP (VPure.move rfl rfl) ?_ | refine VOps.vP (VPure.pick_t rfl rfl rfl) ?_ | refine VOps.passv rfl (by kernel_rfl) rfl ?_))))
     refine VCode.cond_t rfl rfl ?_
     (repeat (first | ((with_reducible refine VOps.same ?_); (first | (refine VOps.nil ?_; try dsimp only [VThen, VBlock]) | refine VOps.vP (VPure.assign rfl rfl) ?_)) | refine VCode.seq ?_ | refine VCode.region rfl ?_))
     refine VCode.retD rfl rfl (.tmp rfl .nil) ?_
     rw [decide_eq_false (p := GoodG g) (fun h => by have := (h.rules.2.2 k r hq).1; have := of_decide_eq_true c1; omega)]; rfl
    have c1 := of_decide_eq_false c1
    (repeat (first | ((with_reducible refine VOps.same ?_); (first | refine VOps.vP (VPure.move rfl rfl) ?_ | refine VOps.vP (VPure.field_ptr rfl rfl rfl) ?_ | refine VOps.vV (VLoad.box1 rfl rfl rfl rfl (by rfl) (by decide)) ?_ | refine VOps.vP (VPure.addK rfl rfl rfl (by omega)) ?_ | refine VOps.vP (VPure.gtr rfl rfl rfl) ?_ | refine VOps.vP (VPure.pick_f rfl rfl rfl) ?_))))
    refine VOps.bool (d := 113) rfl (fun c2 => ?_) (fun c2 => ?_)
    ·(repeat (first | ((with_reducible refine VOps.same ?_); (first | (refine VOps.nil ?_; try dsimp only [VThen, VBlock]) | refine VOps.vP (VPure.move rfl rfl) ?_ | refine VOps.vP (VPure.pick_t rfl rfl rfl) ?_ | refine VOps.passv rfl (by kernel_rfl) rfl ?_))))
     refine VCode.cond_t rfl rfl ?_
     (repeat (first | ((with_reducible refine VOps.same ?_); (first | (refine VOps.nil ?_; try dsimp only [VThen, VBlock]) | refine VOps.vP (VPure.assign rfl rfl) ?_)) | refine VCode.seq ?_ | refine VCode.region rfl ?_))
     refine VCode.retD rfl rfl (.tmp rfl .nil) ?_
     rw [decide_eq_false (p := GoodG g) (fun h => by have h1 := h.lefts; rw [hall, hls, rise_no (by rw [hst, if_pos (of_decide_eq_true c2)])] at h1; cases h1)]; rfl
    have c2 := of_decide_eq_false c2
    rw [if_neg c2, ← hls] at hst
    (repeat (first | ((with_reducible refine VOps.same ?_); (first | refine VOps.vP (VPure.move rfl rfl) ?_ | refine VOps.vP (VPure.field_ptr rfl rfl rfl) ?_ | refine VOps.vV (VLoad.box1 rfl rfl rfl rfl (by rfl) (by decide)) ?_ | refine VOps.vP (VPure.addK rfl rfl rfl (by omega)) ?_ | refine VOps.vP (VPure.geq rfl rfl rfl) ?_ | refine VOps.vP (VPure.pick_f rfl rfl rfl) ?_))))
    refine VOps.bool (d := 121) rfl (fun c3 => ?_) (fun c3 => ?_)
    ·(repeat (first | ((with_reducible refine VOps.same ?_); (first | (refine VOps.nil ?_; try dsimp only [VThen, VBlock]) | refine VOps.vP (VPure.move rfl rfl) ?_ | refine VOps.vP (VPure.pick_t rfl rfl rfl) ?_ | refine VOps.passv rfl (by kernel_rfl) rfl ?_))))
     refine VCode.cond_t rfl rfl ?_
     (repeat (first | ((with_reducible refine VOps.same ?_); (first | (refine VOps.nil ?_; try dsimp only [VThen, VBlock]) | refine VOps.vP (VPure.assign rfl rfl) ?_)) | refine VCode.seq ?_ | refine VCode.region rfl ?_))
     refine VCode.retD rfl rfl (.tmp rfl .nil) ?_
     rw [decide_eq_false (p := GoodG g) (fun h => by have := (h.rules.2.2 k r hq).2.1; have := of_decide_eq_true c3; unfold symZ at *; omega)]; rfl
    have c3 := of_decide_eq_false c3
    (repeat (first | ((with_reducible refine VOps.same ?_); (first | refine VOps.vP (VPure.move rfl rfl) ?_ | refine VOps.vP (VPure.len_map TI.und' rfl rfl) ?_ | refine VOps.vP (VPure.field_ptr rfl rfl rfl) ?_ | refine VOps.vV (VLoad.box1 rfl rfl rfl rfl (by rfl) (by decide)) ?_ | refine VOps.vP (VPure.gtr rfl rfl rfl) ?_ | refine VOps.vP (VPure.pick_f rfl rfl rfl) ?_))))
    refine VOps.bool (d := 127) rfl (fun c4 => ?_) (fun c4 => ?_)
    ·(repeat (first | ((with_reducible refine VOps.same ?_); (first | (refine VOps.nil ?_; try dsimp only [VThen, VBlock]) | refine VOps.vP (VPure.pick_t rfl rfl rfl) ?_ | refine VOps.passv rfl (by kernel_rfl) rfl ?_))))
     refine VCode.cond_t rfl rfl ?_
     (repeat (first | ((with_reducible refine VOps.same ?_); (first | (refine VOps.nil ?_; try dsimp only [VThen, VBlock]) | refine VOps.vP (VPure.assign rfl rfl) ?_)) | refine VCode.seq ?_ | refine VCode.region rfl ?_))
     refine VCode.retD rfl rfl (.tmp rfl .nil) ?_
     rw [decide_eq_false (p := GoodG g) (fun h => by have := (h.rules.2.2 k r hq).2.2.1; have := of_decide_eq_true c4; omega)]; rfl
    have c4 := of_decide_eq_false c4
    (repeat (first | ((with_reducible refine VOps.same ?_); (first | refine VOps.vP (VPure.move rfl rfl) ?_ | (refine VOps.vP (VPure.cut_take rfl rfl rfl ?b1) ?_; (case b1 => (first | omega | (simp only [List.length_map, List.length_append, List.length_cons, List.length_nil] at *; omega) | (simp; omega)))) | refine VOps.vP (VPure.field_ptr rfl rfl rfl) ?_ | refine VOps.vV (VLoad.box1 rfl rfl rfl rfl (by rfl) (by decide)) ?_ | refine VOps.vV (VLoad.boxA rfl rfl rfl (by rfl) (leR (by rfl)) (by decide)) ?_))))
    refine VOps.pure rfl Try.func46 rfl (by kernel_rfl) rfl rfl rfl rfl rfl rfl rfl (rhas_v (g.rules.take k) r (by rw [List.length_take]; omega) (fun x hx => by have := hg.rights x (List.mem_of_mem_take hx); omega) (by omega)) ?_
    (repeat (first | ((with_reducible refine VOps.same ?_); (first | (refine VOps.nil ?_; try dsimp only [VThen, VBlock]) | refine VOps.vP (VPure.pick_f rfl rfl rfl) ?_))))
    refine VCode.cond rfl (fun c5 => ?_) (fun c5 => ?_)
    ·(repeat (first | ((with_reducible refine VOps.same ?_); (first | (refine VOps.nil ?_; try dsimp only [VThen, VBlock]) | refine VOps.vP (VPure.assign rfl rfl) ?_)) | refine VCode.seq ?_ | refine VCode.region rfl ?_))
     refine VCode.retD rfl rfl (.tmp rfl .nil) ?_
     rw [decide_eq_false (p := GoodG g) (fun h => (h.rules.2.2 k r hq).2.2.2.1 ((inR_iff _ _).1 c5))]; rfl
    have c5 : r ∉ g.rules.take k := fun h => by rw [(inR_iff _ _).2 h] at c5; cases c5
    (repeat (first | ((with_reducible refine VOps.same ?_); (first | (refine VOps.nil ?_; try dsimp only [VThen, VBlock]) | refine VOps.vP (VPure.move rfl rfl) ?_ | refine VOps.vP (VPure.field_ptr rfl rfl rfl) ?_ | refine VOps.vV (VLoad.box1 rfl rfl rfl rfl (by rfl) (by decide)) ?_ | refine VOps.vP (VPure.addK rfl rfl rfl (by omega)) ?_ | refine VOps.vP (VPure.eqi rfl rfl rfl) ?_)) | refine VCode.seq ?_ | refine VCode.region rfl ?_ | refine VCode.skip ?_))
    refine VCode.thenI (I := fun st => ∃ a', rise (g.terms.length : Int) ((g.rules.take (k + 1)).map Ru.left) = some ((g.terms.length : Int) + a') ∧ st = ⟨[(9, .val (.int .i64 (k : Int))), (7, .val (.int .i64 a')), (8, .val (.int .i64 b)), (4, .val (.int .i64 (g.names.length : Int))), (3, .val (.int .i64 (g.terms.length : Int))), (1, .ptr 0 0), (10, .ptr 1 0)], [(0, gO g), (1, rO r)], 2⟩) ?_ ?_
    ·skip
     refine VCode.cond rfl (fun c6 => ?_) (fun c6 => ?_)
     ·(repeat (first | ((with_reducible refine VOps.same ?_); (first | (refine VOps.nil ?_; try dsimp only [VThen, VBlock]) | refine VOps.vP (VPure.move rfl rfl) ?_ | refine VOps.vP (VPure.assign rfl rfl) ?_ | refine VOps.vP (VPure.addK rfl rfl rfl (by omega)) ?_)) | refine VCode.region rfl ?_))
      rw [if_pos (of_decide_eq_true c6)] at hst
      (refine Less.mk (l := [0, 1]) hcx ?ss ?hh rfl (by decide) rfl ⟨a + 1, (by rw [hst]; exact congrArg some (by omega)), rfl⟩; (case ss => repeat (first | exact SubS.nil | refine SubS.cons rfl rfl ?_ | refine SubS.cons (ciI (by omega)) rfl ?_ | refine SubS.cons (ciB (by assumption)) rfl ?_)); (case hh => repeat (first | exact SubH.nil | refine SubH.cons rfl rfl rfl ?_)))
     ·(repeat (first | refine VCode.skip ?_))
      (refine Less.mk (l := [0, 1]) hcx ?ss ?hh rfl (by decide) rfl ⟨a, (by rw [hst, if_neg (of_decide_eq_false c6)]), rfl⟩; (case ss => repeat (first | exact SubS.nil | refine SubS.cons rfl rfl ?_ | refine SubS.cons (ciI (by omega)) rfl ?_ | refine SubS.cons (ciB (by assumption)) rfl ?_)); (case hh => repeat (first | exact SubH.nil | refine SubH.cons rfl rfl rfl ?_)))
    rintro st ⟨a', hra', rfl⟩
    clear hst hra hla hlen
    have hla := rise_le hra'
    have hlen : ((g.rules.take (k + 1)).map Ru.left).length ≤ 61 := by rw [List.length_map, List.length_take]; omega
    (repeat (first | ((with_reducible refine VOps.same ?_); (first | (refine VOps.nil ?_; try dsimp only [VThen, VBlock]) | refine VOps.vP (VPure.assign rfl rfl) ?_)) | refine VCode.seq ?_ | refine VCode.region rfl ?_ | refine VCode.block ?_))
    refine VCode.loop (fun m st => ∃ (j : Nat) (b' : Int), j ≤ r.right.length ∧ m = r.right.length - j ∧ (∀ s ∈ r.right.take j, 0 ≤ s ∧ s < symZ g) ∧ rise 0 (tsyms g (g.rules.take k) ++ (r.right.take j).filter (isT g)) = some b' ∧ st = ⟨[(11, .val (.int .i64 (j : Int))), (9, .val (.int .i64 (k : Int))), (7, .val (.int .i64 a')), (8, .val (.int .i64 b')), (4, .val (.int .i64 (g.names.length : Int))), (3, .val (.int .i64 (g.terms.length : Int))), (1, .ptr 0 0), (10, .ptr 1 0)], [(0, gO g), (1, rO r)], 2⟩) r.right.length ?_ ?_
    ·(refine Less.mk (l := [0, 1]) hcx ?ss ?hh rfl (by decide) rfl ⟨0, b, by omega, by omega, by simp, (by simpa using hrb), rfl⟩; (case ss => repeat (first | exact SubS.nil | refine SubS.cons rfl rfl ?_ | refine SubS.cons (ciI (by omega)) rfl ?_ | refine SubS.cons (ciB (by assumption)) rfl ?_)); (case hh => repeat (first | exact SubH.nil | refine SubH.cons rfl rfl rfl ?_)))
    rintro m st ⟨j, b', hj, rfl, hin, hrb', rfl⟩
    have hlb' := rise_le hrb'
    have hfl : (tsyms g (g.rules.take k) ++ (r.right.take j).filter (isT g)).length ≤ 600 := by have := List.length_filter_le (isT g) (r.right.take j); rw [List.length_take] at this; rw [List.length_append]; omega
    cases hs : r.right[j]? with
    | some s =>
     have hlt2 : j < r.right.length := (List.getElem?_eq_some_iff.1 hs).1
     have hsm := List.mem_of_getElem? hs
     have hfs : (r.right.take (j + 1)).filter (isT g) = (r.right.take j).filter (isT g) ++ if isT g s then [s] else [] := by
      rw [List.take_add_one, hs, List.filter_append]
      cases hb : isT g s <;> simp [hb]
     have hall2 : tsyms g g.rules = tsyms g (g.rules.take k) ++ (r.right.take (j + 1)).filter (isT g) ++ ((r.right.drop (j + 1)).filter (isT g) ++ tsyms g (g.rules.drop (k + 1))) := by
      rw [← List.append_assoc, List.append_assoc (tsyms g _) _ (List.filter _ (r.right.drop (j + 1))), ← List.filter_append, List.take_append_drop, ← hts, ← tsyms_append, List.take_append_drop]
     (repeat (first | ((with_reducible refine VOps.same ?_); (first | (refine VOps.nil ?_; try dsimp only [VThen, VBlock]) | refine VOps.vP (VPure.move rfl rfl) ?_ | refine VOps.vP (VPure.len_map TI.und' rfl rfl) ?_ | refine VOps.vP (VPure.field_ptr rfl rfl rfl) ?_ | refine VOps.vV (VLoad.box1 rfl rfl rfl rfl (by rfl) (by decide)) ?_ | refine VOps.vP (VPure.lss rfl rfl rfl) ?_)) | refine VCode.seq ?_ | refine VCode.region rfl ?_))
     refine VCode.cond_t rfl (decide_eq_true (by omega)) ?_
     (repeat (first | ((with_reducible refine VOps.same ?_); (first | (refine VOps.nil ?_; try dsimp only [VThen, VBlock]) | refine VOps.vP (VPure.move rfl rfl) ?_ | refine VOps.vP (VPure.assign rfl rfl) ?_ | refine VOps.vP (VPure.idx_map rfl rfl rfl (by assumption)) ?_ | refine VOps.vP (VPure.field_ptr rfl rfl rfl) ?_ | refine VOps.vV (VLoad.el1 rfl rfl rfl (by rfl)) ?_ | refine VOps.vV (VLoad.box1 rfl rfl rfl rfl (by rfl) (by decide)) ?_ | refine VOps.vP (VPure.lss rfl rfl rfl) ?_)) | refine VCode.seq ?_ | refine VCode.region rfl ?_ | refine VCode.block ?_ | refine VCode.skip ?_))
     refine VOps.bool (d := 157) rfl (fun d1 => ?_) (fun d1 => ?_)
     ·(repeat (first | ((with_reducible refine VOps.same ?_); (first | (refine VOps.nil ?_; try dsimp only [VThen, VBlock]) | refine VOps.vP (VPure.move rfl rfl) ?_ | refine VOps.vP (VPure.pick_t rfl rfl rfl) ?_ | refine VOps.passv rfl (by kernel_rfl) rfl ?_))))
      refine VCode.cond_t rfl rfl ?_
      (repeat (first | ((with_reducible refine VOps.same ?_); (first | (refine VOps.nil ?_; try dsimp only [VThen, VBlock]) | refine VOps.vP (VPure.assign rfl rfl) ?_)) | refine VCode.seq ?_ | refine VCode.region rfl ?_))
      refine VCode.retD rfl rfl (.tmp rfl .nil) ?_
      rw [decide_eq_false (p := GoodG g) (fun h => by have := ((h.rules.2.2 k r hq).2.2.2.2 s hsm).1; have := of_decide_eq_true d1; omega)]; rfl
     have d1 := of_decide_eq_false d1
     (repeat (first | ((with_reducible refine VOps.same ?_); (first | refine VOps.vP (VPure.move rfl rfl) ?_ | refine VOps.vP (VPure.addK rfl rfl rfl (by omega)) ?_ | refine VOps.vP (VPure.geq rfl rfl rfl) ?_ | refine VOps.vP (VPure.pick_f rfl rfl rfl) ?_))))
     refine VOps.bool (d := 164) rfl (fun d2 => ?_) (fun d2 => ?_)
     ·(repeat (first | ((with_reducible refine VOps.same ?_); (first | (refine VOps.nil ?_; try dsimp only [VThen, VBlock]) | refine VOps.vP (VPure.pick_t rfl rfl rfl) ?_ | refine VOps.passv rfl (by kernel_rfl) rfl ?_))))
      refine VCode.cond_t rfl rfl ?_
      (repeat (first | ((with_reducible refine VOps.same ?_); (first | (refine VOps.nil ?_; try dsimp only [VThen, VBlock]) | refine VOps.vP (VPure.assign rfl rfl) ?_)) | refine VCode.seq ?_ | refine VCode.region rfl ?_))
      refine VCode.retD rfl rfl (.tmp rfl .nil) ?_
      rw [decide_eq_false (p := GoodG g) (fun h => by have := ((h.rules.2.2 k r hq).2.2.2.2 s hsm).2; have := of_decide_eq_true d2; unfold symZ at *; omega)]; rfl
     have d2 := of_decide_eq_false d2
     have hin' : ∀ s ∈ r.right.take (j + 1), 0 ≤ s ∧ s < symZ g := take_all hs hin ⟨by omega, by unfold symZ; omega⟩
     (repeat (first | ((with_reducible refine VOps.same ?_); (first | refine VOps.vP (VPure.move rfl rfl) ?_ | refine VOps.vP (VPure.lss rfl rfl rfl) ?_))))
     refine VOps.bool (d := 168) rfl (fun d3 => ?_) (fun d3 => ?_)
     ·have d3 := of_decide_eq_true d3
      have hT : isT g s = true := by unfold isT; rw [decide_eq_true (by omega), decide_eq_true d3]; rfl
      rw [if_pos hT] at hfs
      have hst2 := rise_step (n := s) hrb'
      rw [List.append_assoc, ← hfs] at hst2
      (repeat (first | ((with_reducible refine VOps.same ?_); (first | (refine VOps.nil ?_; try dsimp only [VThen, VBlock]) | refine VOps.vP (VPure.move rfl rfl) ?_ | refine VOps.vP (VPure.gtr rfl rfl rfl) ?_ | refine VOps.vP (VPure.pick_t rfl rfl rfl) ?_ | refine VOps.vP (VPure.pick_f rfl rfl rfl) ?_))))
      refine VCode.cond rfl (fun d4 => ?_) (fun d4 => ?_)
      ·(repeat (first | ((with_reducible refine VOps.same ?_); (first | (refine VOps.nil ?_; try dsimp only [VThen, VBlock]) | refine VOps.vP (VPure.assign rfl rfl) ?_)) | refine VCode.seq ?_ | refine VCode.region rfl ?_))
       refine VCode.retD rfl rfl (.tmp rfl .nil) ?_
       rw [decide_eq_false (p := GoodG g) (fun h => by have h1 := h.syms; rw [hall2, rise_no (by rw [hst2, if_pos (of_decide_eq_true d4)])] at h1; cases h1)]; rfl
      have d4 := of_decide_eq_false d4
      rw [if_neg d4] at hst2
      (repeat (first | ((with_reducible refine VOps.same ?_); (first | refine VOps.vP (VPure.move rfl rfl) ?_ | refine VOps.vP (VPure.eqi rfl rfl rfl) ?_)) | refine VCode.seq ?_ | refine VCode.region rfl ?_ | refine VCode.skip ?_))
      refine VOps.bool (d := 177) rfl (fun d5 => ?_) (fun d5 => ?_)
      ·have d5 := of_decide_eq_true d5
       rw [if_pos d5] at hst2
       (repeat (first | ((with_reducible refine VOps.same ?_); (first | (refine VOps.nil ?_; try dsimp only [VThen, VBlock]) | refine VOps.vP (VPure.move rfl rfl) ?_ | refine VOps.vP (VPure.lss rfl rfl rfl) ?_ | refine VOps.vP (VPure.pick_t rfl rfl rfl) ?_))))
       refine VCode.cond_t rfl (decide_eq_true d3) ?_
       (repeat (first | ((with_reducible refine VOps.same ?_); (first | (refine VOps.nil ?_; try dsimp only [VThen, VBlock]) | refine VOps.vP (VPure.move rfl rfl) ?_ | refine VOps.vP (VPure.assign rfl rfl) ?_ | refine VOps.vP (VPure.addK rfl rfl rfl (by omega)) ?_)) | refine VCode.region rfl ?_))
       (refine Less.mk (l := [0, 1]) hcx ?ss ?hh rfl (by decide) rfl ⟨_, ?_, j + 1, b' + 1, by omega, rfl, hin', hst2, rfl⟩; (case ss => repeat (first | exact SubS.nil | refine SubS.cons rfl rfl ?_ | refine SubS.cons (ciI (by omega)) rfl ?_ | refine SubS.cons (ciB (by assumption)) rfl ?_)); (case hh => repeat (first | exact SubH.nil | refine SubH.cons rfl rfl rfl ?_)))
       omega
      ·have d5 := of_decide_eq_false d5
       rw [if_neg d5] at hst2
       (repeat (first | ((with_reducible refine VOps.same ?_); (first | (refine VOps.nil ?_; try dsimp only [VThen, VBlock]) | refine VOps.vP (VPure.pick_f rfl rfl rfl) ?_ | refine VOps.passv rfl (by kernel_rfl) rfl ?_))))
       refine VCode.cond_f rfl rfl ?_
       (repeat (first | ((with_reducible refine VOps.same ?_); (first | (refine VOps.nil ?_; try dsimp only [VThen, VBlock]) | refine VOps.vP (VPure.move rfl rfl) ?_ | refine VOps.vP (VPure.assign rfl rfl) ?_ | refine VOps.vP (VPure.addK rfl rfl rfl (by omega)) ?_)) | refine VCode.region rfl ?_ | refine VCode.skip ?_))
       (refine Less.mk (l := [0, 1]) hcx ?ss ?hh rfl (by decide) rfl ⟨_, ?_, j + 1, b', by omega, rfl, hin', hst2, rfl⟩; (case ss => repeat (first | exact SubS.nil | refine SubS.cons rfl rfl ?_ | refine SubS.cons (ciI (by omega)) rfl ?_ | refine SubS.cons (ciB (by assumption)) rfl ?_)); (case hh => repeat (first | exact SubH.nil | refine SubH.cons rfl rfl rfl ?_)))
       omega
     ·have d3 := of_decide_eq_false d3
      have hT : isT g s = false := by unfold isT; rw [decide_eq_false d3]; simp
      rw [if_neg (by rw [hT]; simp), List.append_nil] at hfs
      rw [← hfs] at hrb'
      (repeat (first | ((with_reducible refine VOps.same ?_); (first | (refine VOps.nil ?_; try dsimp only [VThen, VBlock]) | refine VOps.vP (VPure.pick_f rfl rfl rfl) ?_ | refine VOps.passv rfl (by kernel_rfl) rfl ?_))))
      refine VCode.cond_f rfl rfl ?_
      (repeat (first | ((with_reducible refine VOps.same ?_); (first | refine VOps.vP (VPure.move rfl rfl) ?_ | refine VOps.vP (VPure.eqi rfl rfl rfl) ?_)) | refine VCode.seq ?_ | refine VCode.region rfl ?_ | refine VCode.skip ?_))
      refine VOps.bool (d := 177) rfl (fun d5 => ?_) (fun d5 => ?_)
      ·(repeat (first | ((with_reducible refine VOps.same ?_); (first | (refine VOps.nil ?_; try dsimp only [VThen, VBlock]) | refine VOps.vP (VPure.move rfl rfl) ?_ | refine VOps.vP (VPure.lss rfl rfl rfl) ?_ | refine VOps.vP (VPure.pick_t rfl rfl rfl) ?_))))
       refine VCode.cond_f rfl (decide_eq_false d3) ?_
       (repeat (first | ((with_reducible refine VOps.same ?_); (first | (refine VOps.nil ?_; try dsimp only [VThen, VBlock]) | refine VOps.vP (VPure.move rfl rfl) ?_ | refine VOps.vP (VPure.assign rfl rfl) ?_ | refine VOps.vP (VPure.addK rfl rfl rfl (by omega)) ?_)) | refine VCode.region rfl ?_ | refine VCode.skip ?_))
       (refine Less.mk (l := [0, 1]) hcx ?ss ?hh rfl (by decide) rfl ⟨_, ?_, j + 1, b', by omega, rfl, hin', hrb', rfl⟩; (case ss => repeat (first | exact SubS.nil | refine SubS.cons rfl rfl ?_ | refine SubS.cons (ciI (by omega)) rfl ?_ | refine SubS.cons (ciB (by assumption)) rfl ?_)); (case hh => repeat (first | exact SubH.nil | refine SubH.cons rfl rfl rfl ?_)))
       omega
      ·(repeat (first | ((with_reducible refine VOps.same ?_); (first | (refine VOps.nil ?_; try dsimp only [VThen, VBlock]) | refine VOps.vP (VPure.pick_f rfl rfl rfl) ?_ | refine VOps.passv rfl (by kernel_rfl) rfl ?_))))
       refine VCode.cond_f rfl rfl ?_
       (repeat (first | ((with_reducible refine VOps.same ?_); (first | (refine VOps.nil ?_; try dsimp only [VThen, VBlock]) | refine VOps.vP (VPure.move rfl rfl) ?_ | refine VOps.vP (VPure.assign rfl rfl) ?_ | refine VOps.vP (VPure.addK rfl rfl rfl (by omega)) ?_)) | refine VCode.region rfl ?_ | refine VCode.skip ?_))
       (refine Less.mk (l := [0, 1]) hcx ?ss ?hh rfl (by decide) rfl ⟨_, ?_, j + 1, b', by omega, rfl, hin', hrb', rfl⟩; (case ss => repeat (first | exact SubS.nil | refine SubS.cons rfl rfl ?_ | refine SubS.cons (ciI (by omega)) rfl ?_ | refine SubS.cons (ciB (by assumption)) rfl ?_)); (case hh => repeat (first | exact SubH.nil | refine SubH.cons rfl rfl rfl ?_)))
       omega
    | none =>
     have hge : r.right.length ≤ j := List.getElem?_eq_none_iff.1 hs
     rw [List.take_of_length_le hge] at hin hrb'
     rw [← hts] at hrb'
     have hok : okRule g k r := ⟨by omega, by unfold symZ; omega, by omega, c5, hin⟩
     (repeat (first | ((with_reducible refine VOps.same ?_); (first | (refine VOps.nil ?_; try dsimp only [VThen, VBlock]) | refine VOps.vP (VPure.move rfl rfl) ?_ | refine VOps.vP (VPure.len_map TI.und' rfl rfl) ?_ | refine VOps.vP (VPure.field_ptr rfl rfl rfl) ?_ | refine VOps.vV (VLoad.box1 rfl rfl rfl rfl (by rfl) (by decide)) ?_ | refine VOps.vP (VPure.lss rfl rfl rfl) ?_)) | refine VCode.seq ?_ | refine VCode.region rfl ?_))
     refine VCode.cond_f rfl (decide_eq_false (by omega)) ?_
     (repeat (first | ((with_reducible refine VOps.same ?_); (first | (refine VOps.nil ?_; try dsimp only [VThen, VBlock]) | refine VOps.vP (VPure.move rfl rfl) ?_ | refine VOps.vP (VPure.assign rfl rfl) ?_ | refine VOps.vP (VPure.addK rfl rfl rfl (by omega)) ?_)) | refine VCode.region rfl ?_ | refine VCode.exit ?_))
     (refine Less.mk (l := [0]) hcx ?ss ?hh rfl (by decide) rfl ⟨_, ?_, k + 1, a', b', by omega, rfl, (fun i x hi hx => by
      by_cases e : i = k
      ·subst e; rw [hq] at hx; obtain rfl := Option.some.inj hx; exact hok
      ·exact hb i x (by omega) hx), hra', hrb', rfl⟩; (case ss => repeat (first | exact SubS.nil | refine SubS.cons rfl rfl ?_ | refine SubS.cons (ciI (by omega)) rfl ?_ | refine SubS.cons (ciB (by assumption)) rfl ?_)); (case hh => repeat (first | exact SubH.nil | refine SubH.cons rfl rfl rfl ?_)))
     omega
   | none =>
    have hge : g.rules.length ≤ k := List.getElem?_eq_none_iff.1 hq
    rw [List.take_of_length_le hge] at hra hrb
    have hok : okRules g := fun i r hi => hb i r (by have := (List.getElem?_eq_some_iff.1 hi).1; omega) hi
    (repeat (first | ((with_reducible refine VOps.same ?_); (first | (refine VOps.nil ?_; try dsimp only [VThen, VBlock]) | refine VOps.vP (VPure.move rfl rfl) ?_ | refine VOps.vP (VPure.len_map TI.und' rfl rfl) ?_ | refine VOps.vP (VPure.field_ptr rfl rfl rfl) ?_ | refine VOps.vV (VLoad.box1 rfl rfl rfl rfl (by rfl) (by decide)) ?_ | refine VOps.vP (VPure.lss rfl rfl rfl) ?_)) | refine VCode.seq ?_ | refine VCode.region rfl ?_))
    refine VCode.cond_f rfl (decide_eq_false (by omega)) ?_
    (repeat (first | ((with_reducible refine VOps.same ?_); (first | refine VOps.vP (VPure.move rfl rfl) ?_ | refine VOps.vP (VPure.eqi rfl rfl rfl) ?_)) | refine VCode.seq ?_ | refine VCode.region rfl ?_ | refine VCode.exit ?_))
    refine VOps.bool (d := 187) rfl (fun e1 => ?_) (fun e1 => ?_)
    ·have e1 := of_decide_eq_true e1
     (repeat (first | ((with_reducible refine VOps.same ?_); (first | (refine VOps.nil ?_; try dsimp only [VThen, VBlock]) | refine VOps.vP (VPure.move rfl rfl) ?_ | refine VOps.vP (VPure.assign rfl rfl) ?_ | refine VOps.vP (VPure.eqi rfl rfl rfl) ?_ | refine VOps.vP (VPure.pick_t rfl rfl rfl) ?_))))
     refine VCode.retD rfl rfl (.tmp rfl .nil) ?_
     exact congrArg (fun b => V.val (.bool b)) (by
      rw [decide_eq_decide]
      exact ⟨fun h => ⟨⟨ok_names, by omega, by omega⟩, ⟨ok_terms, by omega, by omega⟩, ⟨by omega, by omega, hok⟩, by rw [hra, e1], by rw [hrb, h]⟩, fun h => by have := h.syms; rw [hrb] at this; exact Option.some.inj this⟩)
    ·have e1 := of_decide_eq_false e1
     (repeat (first | ((with_reducible refine VOps.same ?_); (first | (refine VOps.nil ?_; try dsimp only [VThen, VBlock]) | refine VOps.vP (VPure.assign rfl rfl) ?_ | refine VOps.vP (VPure.pick_f rfl rfl rfl) ?_ | refine VOps.passv rfl (by kernel_rfl) rfl ?_))))
     refine VCode.retD rfl rfl (.tmp rfl .nil) ?_
     rw [decide_eq_false (p := GoodG g) (fun h => by have := h.lefts; rw [hra] at this; have := Option.some.inj this; unfold symZ at this; omega)]; rfl
end Go.Proofs.Ytfjfbapiheehaaa.V
end
section
set_option linter.unusedVariables false
set_option linter.unusedSimpArgs false
namespace Go.Proofs.Ytfjfbapiheehaaa.V
open Go Go.RowKit
set_option maxHeartbeats 2000000 in
theorem ends_v {g : Gr} {x : Spot} {i j : Nat} {r : Ru} {s : Int} {a b : Nat} (hg : Sized g) (h : SpotAt g x i j r s a b) : VCalls Try.prog 41 [gV g, pV x] [] 0 (Gives (.tup [.val (.int .i64 (a : Int)), .val (.int .i64 (b : Int))])) := by
 obtain ⟨rfl, hr, hs, hl, hy, ha, hb, _⟩ := h
 have ht := hg.terms
 have hn := hg.names
 have e1 : r.left - (g.terms.length : Int) = (a : Int) := by omega
 have e2 : s - (g.terms.length : Int) = (b : Int) := by omega
 refine VCalls.enterD (n := 29) Try.func41 rfl rfl (by simp) rfl (fun cx hcx => ?_)
 (repeat (first | ((with_reducible refine VOps.same ?_); (first | (refine VOps.nil ?_; try dsimp only [VThen, VBlock]) | refine VOps.vP (VPure.assign rfl rfl) ?_ | refine VOps.vP (VPure.len_map TI.und' rfl rfl) ?_ | refine VOps.vP (VPure.idx_map rfl rfl rfl (by assumption)) ?_ | refine VOps.vP (VPure.field_ptr rfl rfl rfl) ?_ | refine VOps.vV (VLoad.el1 rfl rfl rfl (by rfl)) ?_ | refine VOps.vV (VLoad.box1 rfl rfl rfl rfl (by rfl) (by decide)) ?_ | refine VOps.vV (VLoad.elA rfl rfl (by rfl) (leR (by rfl))) ?_ | refine VOps.vP (VPure.subK rfl rfl rfl (by omega)) ?_ | refine VOps.alloc rfl rfl (by kernel_rfl) rfl (by kernel_rfl) rfl ?_ | refine VOps.box rfl rfl (by kernel_rfl) rfl rfl rfl rfl ?_ | refine VOps.store rfl rfl (by kernel_rfl) rfl rfl rfl rfl rfl rfl (leR (by rfl)) rfl ?_)) | refine VCode.seq ?_ | refine VCode.region rfl ?_ | refine VCode.draw [] rfl ?_))
 refine VCode.retD rfl rfl (.tmp rfl (.tmp rfl .nil)) ?_
 rw [e1, e2]; rfl
set_option maxHeartbeats 4000000 in
theorem spots_o (g : Gr) (hg : Sized g) : VCalls Try.prog 18 [gV g] [] 0 (Leaves (.ref 0) [(0, .arr 44 2 ((spots g).map encP))] 1) := by
 have ht := hg.terms
 have hn := hg.names
 have hr := hg.rules
 refine VCalls.enterL (n := 40) Try.func18 rfl rfl (by simp) (fun cx hcx => ?_)
 (repeat (first | ((with_reducible refine VOps.same ?_); (first | (refine VOps.nil ?_; try dsimp only [VThen, VBlock]) | refine VOps.vP (VPure.assign rfl rfl) ?_ | refine VOps.vV (VLoad.boxA rfl rfl rfl (by rfl) (leR (by rfl)) (by decide)) ?_ | refine VOps.box rfl rfl (by kernel_rfl) rfl rfl rfl rfl ?_)) | refine VCode.seq ?_ | refine VCode.region rfl ?_))
 refine VOps.pure rfl Try.func35 rfl (by kernel_rfl) rfl rfl rfl rfl rfl rfl rfl (good_v g hg) ?_
 (repeat (first | ((with_reducible refine VOps.same ?_); (first | (refine VOps.nil ?_; try dsimp only [VThen, VBlock]) | refine VOps.vP (VPure.not rfl rfl) ?_))))
 refine VCode.cond rfl (fun h1 => ?_) (fun h1 => ?_)
 ·(repeat (first | ((with_reducible refine VOps.same ?_); (first | (refine VOps.nil ?_; try dsimp only [VThen, VBlock]) | refine VOps.vP (VPure.assign rfl rfl) ?_)) | refine VCode.seq ?_ | refine VCode.region rfl ?_))
  refine VCode.nilObj 2 44 2 rfl ?_
  refine VCode.ret ?_
  have hs : ([] : List (List D)) = (spots g).map encP := by unfold spots; rw [if_neg (by simpa using h1)]; rfl
  refine Less.mkx (l := [1]) (st' := ⟨[(2, .ref 0)], [(0, .arr 44 2 ((spots g).map encP))], 1⟩) 0 hcx (Nat.zero_le _) (fun i h => by omega) ?ss ?hh rfl (by decide) rfl ⟨_, .tmp rfl .nil, rfl, rfl, rfl⟩
  case ss => exact SubS.cons rfl rfl .nil
  case hh => rw [← hs]; exact SubH.cons rfl rfl rfl .nil
 have hG : GoodG g := by simpa using h1
 have h8 : ∀ r ∈ g.rules, r.right.length ≤ 8 := fun r hr => by
  obtain ⟨i, hi⟩ := List.getElem?_of_mem hr
  exact (hG.rules.2.2 i r hi).2.2.1
 have h60 := hG.rules.2.1
 (repeat (first | ((with_reducible refine VOps.same ?_); (first | (refine VOps.nil ?_; try dsimp only [VThen, VBlock]) | refine VOps.vP (VPure.move rfl rfl) ?_ | refine VOps.vP (VPure.assign rfl rfl) ?_ | refine VOps.vP (VPure.len_map TI.und' rfl rfl) ?_ | refine VOps.vP (VPure.field_ptr rfl rfl rfl) ?_ | refine VOps.vV (VLoad.box1 rfl rfl rfl rfl (by rfl) (by decide)) ?_)) | refine VCode.seq ?_ | refine VCode.region rfl ?_ | refine VCode.block ?_ | refine VCode.skip ?_))
 refine VCode.nilObj 3 44 2 rfl ?_
 skip
 refine VCode.loop (fun m st => ∃ (k : Nat) (out : List Spot), k ≤ g.rules.length ∧ m = g.rules.length - k ∧ out = spotsG g 0 (g.rules.take k) ∧ st = ⟨[(14, .val (.int .i64 (k : Int))), (13, .val (.int .i64 (g.rules.length : Int))), (12, .sl 2 (g.rules.map encR)), (3, .ref 1), (1, .ptr 0 0)], [(0, gO g), (1, .arr 44 2 (out.map encP))], 2⟩) g.rules.length ?_ ?_
 ·(refine Less.mk (l := [0, 1]) hcx ?ss ?hh rfl (by decide) rfl ⟨0, [], by omega, by omega, rfl, rfl⟩; (case ss => repeat (first | exact SubS.nil | refine SubS.cons rfl rfl ?_ | refine SubS.cons (ciI (by omega)) rfl ?_ | refine SubS.cons (ciB (by assumption)) rfl ?_)); (case hh => repeat (first | exact SubH.nil | refine SubH.cons rfl rfl rfl ?_)))
 rintro m st ⟨k, out, hk, rfl, hout, rfl⟩
 cases hq : g.rules[k]? with
 | some r =>
  have hlt : k < g.rules.length := (List.getElem?_eq_some_iff.1 hq).1
  have hr8 := h8 r (List.mem_of_getElem? hq)
  have hl1 := spotsG_len g (m := 8) (g.rules.take k) (fun r hr => h8 r (List.mem_of_mem_take hr)) 0
  rw [List.length_take, ← hout] at hl1
  (repeat (first | ((with_reducible refine VOps.same ?_); (first | (refine VOps.nil ?_; try dsimp only [VThen, VBlock]) | refine VOps.vP (VPure.lss rfl rfl rfl) ?_)) | refine VCode.seq ?_ | refine VCode.region rfl ?_))
  refine VCode.cond_t rfl (decide_eq_true (by omega)) ?_
  (repeat (first | ((with_reducible refine VOps.same ?_); (first | (refine VOps.nil ?_; try dsimp only [VThen, VBlock]) | refine VOps.vP (VPure.move rfl rfl) ?_ | refine VOps.vP (VPure.assign rfl rfl) ?_ | refine VOps.vP (VPure.len_map TI.und' rfl rfl) ?_ | refine VOps.vP (VPure.idx_map rfl rfl rfl (by assumption)) ?_ | refine VOps.vP (VPure.field_ptr rfl rfl rfl) ?_ | refine VOps.vV (VLoad.box1 rfl rfl rfl rfl (by rfl) (by decide)) ?_ | refine VOps.vV (VLoad.elA rfl rfl (by rfl) (leR (by rfl))) ?_ | refine VOps.alloc rfl rfl (by kernel_rfl) rfl (by kernel_rfl) rfl ?_ | refine VOps.store rfl rfl (by kernel_rfl) rfl rfl rfl rfl rfl rfl (leR (by rfl)) rfl ?_)) | refine VCode.seq ?_ | refine VCode.region rfl ?_ | refine VCode.block ?_ | refine VCode.skip ?_))
  refine VCode.loop (fun m st => ∃ (j : Nat) (out2 : List Spot), j ≤ r.right.length ∧ m = r.right.length - j ∧ out2 = out ++ spotsF g k 0 (r.right.take j) ∧ st = ⟨[(22, .val (.int .i64 (j : Int))), (21, .val (.int .i64 (r.right.length : Int))), (20, .sl 1 (r.right.map encI)), (4, .val (.int .i64 (k : Int))), (14, .val (.int .i64 (k : Int))), (13, .val (.int .i64 (g.rules.length : Int))), (12, .sl 2 (g.rules.map encR)), (3, .ref 1), (1, .ptr 0 0)], [(0, gO g), (1, .arr 44 2 (out2.map encP))], 2⟩) r.right.length ?_ ?_
  ·(refine Less.mk (l := [0, 1]) hcx ?ss ?hh rfl (by decide) rfl ⟨0, out, by omega, by omega, by simp [spotsF], rfl⟩; (case ss => repeat (first | exact SubS.nil | refine SubS.cons rfl rfl ?_ | refine SubS.cons (ciI (by omega)) rfl ?_ | refine SubS.cons (ciB (by assumption)) rfl ?_)); (case hh => repeat (first | exact SubH.nil | refine SubH.cons rfl rfl rfl ?_)))
  rintro m st ⟨j, out2, hj, rfl, hout2, rfl⟩
  cases hs : r.right[j]? with
  | some s =>
   have hlt2 : j < r.right.length := (List.getElem?_eq_some_iff.1 hs).1
   have hl2 := spotsF_len g k (r.right.take j) 0
   have hl3 := congrArg List.length hout2
   rw [List.length_append] at hl3
   rw [List.length_take] at hl2
   have hst := spotsF_succ g k hs
   (repeat (first | ((with_reducible refine VOps.same ?_); (first | (refine VOps.nil ?_; try dsimp only [VThen, VBlock]) | refine VOps.vP (VPure.lss rfl rfl rfl) ?_)) | refine VCode.seq ?_ | refine VCode.region rfl ?_))
   refine VCode.cond_t rfl (decide_eq_true (by omega)) ?_
   (repeat (first | ((with_reducible refine VOps.same ?_); (first | (refine VOps.nil ?_; try dsimp only [VThen, VBlock]) | refine VOps.vP (VPure.move rfl rfl) ?_ | refine VOps.vP (VPure.assign rfl rfl) ?_ | refine VOps.vP (VPure.idx_map rfl rfl rfl (by assumption)) ?_ | refine VOps.vV (VLoad.el1 rfl rfl rfl (by rfl)) ?_ | refine VOps.vV (VLoad.boxA rfl rfl rfl (by rfl) (leR (by rfl)) (by decide)) ?_)) | refine VCode.seq ?_ | refine VCode.region rfl ?_ | refine VCode.block ?_ | refine VCode.skip ?_))
   refine VOps.pure rfl Try.func38 rfl (by kernel_rfl) rfl rfl rfl rfl rfl rfl rfl (term1_v g s (by omega)) ?_
   (repeat (first | ((with_reducible refine VOps.same ?_); (first | (refine VOps.nil ?_; try dsimp only [VThen, VBlock]) | refine VOps.vP (VPure.not rfl rfl) ?_))))
   refine VCode.cond rfl (fun hb => ?_) (fun hb => ?_)
   ·rw [if_neg (by simpa using hb)] at hst
    (repeat (first | ((with_reducible refine VOps.same ?_); (first | refine VOps.vP (VPure.move rfl rfl) ?_ | refine VOps.vP (VPure.buildC rfl (by kernel_rfl) rfl (by rfl)) ?_ | refine VOps.one rfl rfl (by kernel_rfl) rfl (by rfl) (by decide) (by decide) rfl (by rfl) (by rfl) ?_)) | refine VCode.region rfl ?_))
    refine VOps.append (zs := (out2 ++ [((k : Int), (j : Int))]).map encP) rfl rfl (by kernel_rfl) rfl (by rfl) (by decide) rfl (.arr rfl) rfl (.arr rfl) (by simp only [List.length_append, List.length_cons, List.length_nil, List.length_map]; unfold most; omega) (by simp only [List.length_append, List.length_cons, List.length_nil, List.length_map]; unfold most; omega) rfl ( by simp [encP]) ?_
    (repeat (first | ((with_reducible refine VOps.same ?_); (first | (refine VOps.nil ?_; try dsimp only [VThen, VBlock]) | refine VOps.vP (VPure.move rfl rfl) ?_ | refine VOps.vP (VPure.assign rfl rfl) ?_ | refine VOps.vP (VPure.addK rfl rfl rfl (by omega)) ?_)) | refine VCode.region rfl ?_))
    (refine Less.mk (l := [0, 3]) hcx ?ss ?hh rfl (by decide) rfl ⟨_, ?_, j + 1, out2 ++ [((k : Int), (j : Int))], by omega, rfl, by rw [hst, hout2, List.append_assoc], rfl⟩; (case ss => repeat (first | exact SubS.nil | refine SubS.cons rfl rfl ?_ | refine SubS.cons (ciI (by omega)) rfl ?_ | refine SubS.cons (ciB (by assumption)) rfl ?_)); (case hh => repeat (first | exact SubH.nil | refine SubH.cons rfl rfl rfl ?_)))
    omega
   ·rw [if_pos (by simpa using hb), List.append_nil] at hst
    (repeat (first | ((with_reducible refine VOps.same ?_); (first | (refine VOps.nil ?_; try dsimp only [VThen, VBlock]) | refine VOps.vP (VPure.move rfl rfl) ?_ | refine VOps.vP (VPure.addK rfl rfl rfl (by omega)) ?_)) | refine VCode.region rfl ?_ | refine VCode.skip ?_))
    (refine Less.mk (l := [0, 1]) hcx ?ss ?hh rfl (by decide) rfl ⟨_, ?_, j + 1, out2, by omega, rfl, by rw [hst, hout2], rfl⟩; (case ss => repeat (first | exact SubS.nil | refine SubS.cons rfl rfl ?_ | refine SubS.cons (ciI (by omega)) rfl ?_ | refine SubS.cons (ciB (by assumption)) rfl ?_)); (case hh => repeat (first | exact SubH.nil | refine SubH.cons rfl rfl rfl ?_)))
    omega
  | none =>
   have hge : r.right.length ≤ j := List.getElem?_eq_none_iff.1 hs
   (repeat (first | ((with_reducible refine VOps.same ?_); (first | (refine VOps.nil ?_; try dsimp only [VThen, VBlock]) | refine VOps.vP (VPure.lss rfl rfl rfl) ?_)) | refine VCode.seq ?_ | refine VCode.region rfl ?_))
   refine VCode.cond_f rfl (decide_eq_false (by omega)) ?_
   (repeat (first | ((with_reducible refine VOps.same ?_); (first | (refine VOps.nil ?_; try dsimp only [VThen, VBlock]) | refine VOps.vP (VPure.move rfl rfl) ?_ | refine VOps.vP (VPure.addK rfl rfl rfl (by omega)) ?_)) | refine VCode.region rfl ?_ | refine VCode.exit ?_))
   (refine Less.mk (l := [0, 1]) hcx ?ss ?hh rfl (by decide) rfl ⟨_, ?_, k + 1, out2, by omega, rfl, by rw [spotsG_succ g hq, hout2, hout, List.take_of_length_le hge], rfl⟩; (case ss => repeat (first | exact SubS.nil | refine SubS.cons rfl rfl ?_ | refine SubS.cons (ciI (by omega)) rfl ?_ | refine SubS.cons (ciB (by assumption)) rfl ?_)); (case hh => repeat (first | exact SubH.nil | refine SubH.cons rfl rfl rfl ?_)))
   omega
 | none =>
  have hge : g.rules.length ≤ k := List.getElem?_eq_none_iff.1 hq
  (repeat (first | ((with_reducible refine VOps.same ?_); (first | (refine VOps.nil ?_; try dsimp only [VThen, VBlock]) | refine VOps.vP (VPure.lss rfl rfl rfl) ?_)) | refine VCode.seq ?_ | refine VCode.region rfl ?_))
  refine VCode.cond_f rfl (decide_eq_false (by omega)) ?_
  (repeat (first | ((with_reducible refine VOps.same ?_); (first | (refine VOps.nil ?_; try dsimp only [VThen, VBlock]) | refine VOps.vP (VPure.move rfl rfl) ?_ | refine VOps.vP (VPure.assign rfl rfl) ?_)) | refine VCode.seq ?_ | refine VCode.region rfl ?_ | refine VCode.exit ?_))
  refine VCode.ret ?_
  have hs : out = spots g := by unfold spots; rw [hout, if_pos hG, List.take_of_length_le hge]
  subst hs
  (show Less cx _ _; refine Less.mkx (l := [1]) (st' := ⟨[(2, .ref 0)], [(0, .arr 44 2 ((spots g).map encP))], 1⟩) 0 hcx (Nat.le_of_ble_eq_true rfl) (by decide) ?ss ?hh rfl (by decide) rfl ⟨_, (.tmp rfl .nil), rfl, rfl, rfl⟩; (case ss => repeat (first | exact SubS.nil | refine SubS.cons rfl rfl ?_ | refine SubS.cons (ciI (by omega)) rfl ?_ | refine SubS.cons (ciB (by assumption)) rfl ?_)); (case hh => repeat (first | exact SubH.nil | refine SubH.cons rfl rfl rfl ?_)))
set_option maxHeartbeats 4000000 in
theorem rspots_v (g : Gr) (hg : Sized g) : VCalls Try.prog 19 [gV g] [] 0 (Gives (.sl 2 ((spots g).map encP))) := by
 have ht := hg.terms
 have hn := hg.names
 have hr := hg.rules
 refine VCalls.enterD (n := 48) Try.func19 rfl rfl (by simp) rfl (fun cx hcx => ?_)
 (repeat (first | ((with_reducible refine VOps.same ?_); (first | (refine VOps.nil ?_; try dsimp only [VThen, VBlock]) | refine VOps.vP (VPure.assign rfl rfl) ?_ | refine VOps.box rfl rfl (by kernel_rfl) rfl rfl rfl rfl ?_)) | refine VCode.seq ?_ | refine VCode.region rfl ?_ | refine VCode.block ?_))
 refine VCode.nilObj 3 44 2 rfl ?_
 skip
 refine VCode.loop (fun m st => ∃ (k : Nat) (out : List Spot), k ≤ g.rules.length ∧ m = g.rules.length - k ∧ (1 ≤ k → GoodG g) ∧ out = spotsG g 0 (g.rules.take k) ∧ st = ⟨[(4, .val (.int .i64 (k : Int))), (3, .ref 1), (1, .ptr 0 0)], [(0, gO g), (1, .arr 44 2 (out.map encP))], 2⟩) g.rules.length ?_ ?_
 ·(refine Less.mk (l := [0, 1]) hcx ?ss ?hh rfl (by decide) rfl ⟨0, [], by omega, by omega, (fun h => by omega), rfl, rfl⟩; (case ss => repeat (first | exact SubS.nil | refine SubS.cons rfl rfl ?_ | refine SubS.cons (ciI (by omega)) rfl ?_ | refine SubS.cons (ciB (by assumption)) rfl ?_)); (case hh => repeat (first | exact SubH.nil | refine SubH.cons rfl rfl rfl ?_)))
 rintro m st ⟨k, out, hk, rfl, hG1, hout, rfl⟩
 (repeat (first | ((with_reducible refine VOps.same ?_); (first | refine VOps.vP (VPure.move rfl rfl) ?_ | refine VOps.vP (VPure.len_map TI.und' rfl rfl) ?_ | refine VOps.vP (VPure.field_ptr rfl rfl rfl) ?_ | refine VOps.vV (VLoad.box1 rfl rfl rfl rfl (by rfl) (by decide)) ?_ | refine VOps.vP (VPure.lss rfl rfl rfl) ?_)) | refine VCode.seq ?_ | refine VCode.region rfl ?_))
 refine VOps.bool (d := 11) rfl (fun c1 => ?_) (fun c1 => ?_)
 ·have hlt : k < g.rules.length := by have := of_decide_eq_true c1; omega
  obtain ⟨r, hq⟩ : ∃ r, g.rules[k]? = some r := ⟨_, List.getElem?_eq_getElem hlt⟩
  (repeat (first | ((with_reducible refine VOps.same ?_); (first | refine VOps.vV (VLoad.boxA rfl rfl rfl (by rfl) (leR (by rfl)) (by decide)) ?_))))
  refine VOps.pure rfl Try.func26 rfl (by kernel_rfl) rfl rfl rfl rfl rfl rfl rfl (rgood_v g hg) ?_
  (repeat (first | ((with_reducible refine VOps.same ?_); (first | (refine VOps.nil ?_; try dsimp only [VThen, VBlock]) | refine VOps.vP (VPure.pick_t rfl rfl rfl) ?_))))
  refine VCode.cond rfl (fun h1 => ?_) (fun h1 => ?_)
  ·have hG : GoodG g := by simpa using h1
   have h8 : ∀ r ∈ g.rules, r.right.length ≤ 8 := fun r hr => by
    obtain ⟨i, hi⟩ := List.getElem?_of_mem hr
    exact (hG.rules.2.2 i r hi).2.2.1
   have h60 := hG.rules.2.1
   have hr8 := h8 r (List.mem_of_getElem? hq)
   have hl1 := spotsG_len g (m := 8) (g.rules.take k) (fun r hr => h8 r (List.mem_of_mem_take hr)) 0
   rw [List.length_take, ← hout] at hl1
   (repeat (first | ((with_reducible refine VOps.same ?_); (first | (refine VOps.nil ?_; try dsimp only [VThen, VBlock]) | refine VOps.vP (VPure.assign rfl rfl) ?_)) | refine VCode.seq ?_ | refine VCode.region rfl ?_ | refine VCode.block ?_ | refine VCode.skip ?_))
   refine VCode.loop (fun m st => ∃ (j : Nat) (out2 : List Spot), j ≤ r.right.length ∧ m = r.right.length - j ∧ out2 = out ++ spotsF g k 0 (r.right.take j) ∧ st = ⟨[(5, .val (.int .i64 (j : Int))), (4, .val (.int .i64 (k : Int))), (3, .ref 1), (1, .ptr 0 0)], [(0, gO g), (1, .arr 44 2 (out2.map encP))], 2⟩) r.right.length ?_ ?_
   ·(refine Less.mk (l := [0, 1]) hcx ?ss ?hh rfl (by decide) rfl ⟨0, out, by omega, by omega, by simp [spotsF], rfl⟩; (case ss => repeat (first | exact SubS.nil | refine SubS.cons rfl rfl ?_ | refine SubS.cons (ciI (by omega)) rfl ?_ | refine SubS.cons (ciB (by assumption)) rfl ?_)); (case hh => repeat (first | exact SubH.nil | refine SubH.cons rfl rfl rfl ?_)))
   rintro m st ⟨j, out2, hj, rfl, hout2, rfl⟩
   cases hs : r.right[j]? with
   | some s =>
    have hlt2 : j < r.right.length := (List.getElem?_eq_some_iff.1 hs).1
    have hl2 := spotsF_len g k (r.right.take j) 0
    have hl3 := congrArg List.length hout2
    rw [List.length_append] at hl3
    rw [List.length_take] at hl2
    have hst := spotsF_succ g k hs
    have hs0 := ((hG.rules.2.2 k r hq).2.2.2.2 s (List.mem_of_getElem? hs)).1
    (repeat (first | ((with_reducible refine VOps.same ?_); (first | (refine VOps.nil ?_; try dsimp only [VThen, VBlock]) | refine VOps.vP (VPure.move rfl rfl) ?_ | refine VOps.vP (VPure.len_map TI.und' rfl rfl) ?_ | refine VOps.vP (VPure.idx_map rfl rfl rfl (by assumption)) ?_ | refine VOps.vP (VPure.field_el rfl rfl) ?_ | refine VOps.vP (VPure.field_ptr rfl rfl rfl) ?_ | refine VOps.vV (VLoad.el1 rfl rfl rfl (by rfl)) ?_ | refine VOps.vV (VLoad.box1 rfl rfl rfl rfl (by rfl) (by decide)) ?_ | refine VOps.vP (VPure.lss rfl rfl rfl) ?_)) | refine VCode.seq ?_ | refine VCode.region rfl ?_))
    refine VCode.cond_t rfl (decide_eq_true (by omega)) ?_
    (repeat (first | ((with_reducible refine VOps.same ?_); (first | (refine VOps.nil ?_; try dsimp only [VThen, VBlock]) | refine VOps.vP (VPure.move rfl rfl) ?_ | refine VOps.vP (VPure.len_map TI.und' rfl rfl) ?_ | refine VOps.vP (VPure.idx_map rfl rfl rfl (by assumption)) ?_ | refine VOps.vP (VPure.field_el rfl rfl) ?_ | refine VOps.vP (VPure.field_ptr rfl rfl rfl) ?_ | refine VOps.vV (VLoad.el1 rfl rfl rfl (by rfl)) ?_ | refine VOps.vV (VLoad.box1 rfl rfl rfl rfl (by rfl) (by decide)) ?_ | refine VOps.vP (VPure.geq rfl rfl rfl) ?_)) | refine VCode.seq ?_ | refine VCode.draw [] rfl ?_ | refine VCode.block ?_ | refine VCode.skip ?_))
    refine VCode.cond rfl (fun hb => ?_) (fun hb => ?_)
    ·rw [if_neg (by have := of_decide_eq_true hb; unfold isT; rw [decide_eq_false (p := s < _) (by omega)]; simp)] at hst
     (repeat (first | ((with_reducible refine VOps.same ?_); (first | refine VOps.vP (VPure.move rfl rfl) ?_ | refine VOps.vP (VPure.buildC rfl (by kernel_rfl) rfl (by rfl)) ?_ | refine VOps.one rfl rfl (by kernel_rfl) rfl (by rfl) (by decide) (by decide) rfl (by rfl) (by rfl) ?_)) | refine VCode.region rfl ?_))
     refine VOps.append (zs := (out2 ++ [((k : Int), (j : Int))]).map encP) rfl rfl (by kernel_rfl) rfl (by rfl) (by decide) rfl (.arr rfl) rfl (.arr rfl) (by simp only [List.length_append, List.length_cons, List.length_nil, List.length_map]; unfold most; omega) (by simp only [List.length_append, List.length_cons, List.length_nil, List.length_map]; unfold most; omega) rfl ( by simp [encP]) ?_
     (repeat (first | ((with_reducible refine VOps.same ?_); (first | (refine VOps.nil ?_; try dsimp only [VThen, VBlock]) | refine VOps.vP (VPure.move rfl rfl) ?_ | refine VOps.vP (VPure.assign rfl rfl) ?_ | refine VOps.vP (VPure.addK rfl rfl rfl (by omega)) ?_)) | refine VCode.region rfl ?_))
     (refine Less.mk (l := [0, 3]) hcx ?ss ?hh rfl (by decide) rfl ⟨_, ?_, j + 1, out2 ++ [((k : Int), (j : Int))], by omega, rfl, by rw [hst, hout2, List.append_assoc], rfl⟩; (case ss => repeat (first | exact SubS.nil | refine SubS.cons rfl rfl ?_ | refine SubS.cons (ciI (by omega)) rfl ?_ | refine SubS.cons (ciB (by assumption)) rfl ?_)); (case hh => repeat (first | exact SubH.nil | refine SubH.cons rfl rfl rfl ?_)))
     omega
    ·rw [if_pos (by have := of_decide_eq_false hb; unfold isT; rw [decide_eq_true (p := s < _) (by omega), decide_eq_true (p := 0 ≤ s) hs0]; rfl), List.append_nil] at hst
     (repeat (first | ((with_reducible refine VOps.same ?_); (first | (refine VOps.nil ?_; try dsimp only [VThen, VBlock]) | refine VOps.vP (VPure.move rfl rfl) ?_ | refine VOps.vP (VPure.assign rfl rfl) ?_ | refine VOps.vP (VPure.addK rfl rfl rfl (by omega)) ?_)) | refine VCode.region rfl ?_ | refine VCode.skip ?_))
     (refine Less.mk (l := [0, 1]) hcx ?ss ?hh rfl (by decide) rfl ⟨_, ?_, j + 1, out2, by omega, rfl, by rw [hst, hout2], rfl⟩; (case ss => repeat (first | exact SubS.nil | refine SubS.cons rfl rfl ?_ | refine SubS.cons (ciI (by omega)) rfl ?_ | refine SubS.cons (ciB (by assumption)) rfl ?_)); (case hh => repeat (first | exact SubH.nil | refine SubH.cons rfl rfl rfl ?_)))
     omega
   | none =>
    have hge : r.right.length ≤ j := List.getElem?_eq_none_iff.1 hs
    (repeat (first | ((with_reducible refine VOps.same ?_); (first | (refine VOps.nil ?_; try dsimp only [VThen, VBlock]) | refine VOps.vP (VPure.move rfl rfl) ?_ | refine VOps.vP (VPure.len_map TI.und' rfl rfl) ?_ | refine VOps.vP (VPure.idx_map rfl rfl rfl (by assumption)) ?_ | refine VOps.vP (VPure.field_el rfl rfl) ?_ | refine VOps.vP (VPure.field_ptr rfl rfl rfl) ?_ | refine VOps.vV (VLoad.el1 rfl rfl rfl (by rfl)) ?_ | refine VOps.vV (VLoad.box1 rfl rfl rfl rfl (by rfl) (by decide)) ?_ | refine VOps.vP (VPure.lss rfl rfl rfl) ?_)) | refine VCode.seq ?_ | refine VCode.region rfl ?_))
    refine VCode.cond_f rfl (decide_eq_false (by omega)) ?_
    (repeat (first | ((with_reducible refine VOps.same ?_); (first | (refine VOps.nil ?_; try dsimp only [VThen, VBlock]) | refine VOps.vP (VPure.move rfl rfl) ?_ | refine VOps.vP (VPure.assign rfl rfl) ?_ | refine VOps.vP (VPure.addK rfl rfl rfl (by omega)) ?_)) | refine VCode.region rfl ?_ | refine VCode.exit ?_))
    (refine Less.mk (l := [0, 1]) hcx ?ss ?hh rfl (by decide) rfl ⟨_, ?_, k + 1, out2, by omega, rfl, (fun _ => hG), by rw [spotsG_succ g hq, hout2, hout, List.take_of_length_le hge], rfl⟩; (case ss => repeat (first | exact SubS.nil | refine SubS.cons rfl rfl ?_ | refine SubS.cons (ciI (by omega)) rfl ?_ | refine SubS.cons (ciB (by assumption)) rfl ?_)); (case hh => repeat (first | exact SubH.nil | refine SubH.cons rfl rfl rfl ?_)))
    omega
  ·(repeat (first | ((with_reducible refine VOps.same ?_); (first | (refine VOps.nil ?_; try dsimp only [VThen, VBlock]) | refine VOps.vP (VPure.move rfl rfl) ?_ | refine VOps.vP (VPure.assign rfl rfl) ?_)) | refine VCode.seq ?_ | refine VCode.region rfl ?_ | refine VCode.exit ?_))
   refine VCode.freeze (id := 1) rfl ?_
   refine VCode.retD rfl rfl (.tmp rfl .nil) ?_
   have hk0 : k = 0 := by
    rcases Nat.eq_zero_or_pos k with h | h
    ·exact h
    ·have := hG1 h; rw [decide_eq_true this] at h1; cases h1
   subst hk0
   have : spots g = [] := by unfold spots; rw [if_neg (by simpa using h1)]
   rw [this, hout]; rfl
 ·have hge : g.rules.length ≤ k := by have := of_decide_eq_false c1; omega
  (repeat (first | ((with_reducible refine VOps.same ?_); (first | (refine VOps.nil ?_; try dsimp only [VThen, VBlock]) | refine VOps.vP (VPure.pick_f rfl rfl rfl) ?_ | refine VOps.passv rfl (by kernel_rfl) rfl ?_))))
  refine VCode.cond_f rfl rfl ?_
  (repeat (first | ((with_reducible refine VOps.same ?_); (first | (refine VOps.nil ?_; try dsimp only [VThen, VBlock]) | refine VOps.vP (VPure.move rfl rfl) ?_ | refine VOps.vP (VPure.assign rfl rfl) ?_)) | refine VCode.seq ?_ | refine VCode.region rfl ?_ | refine VCode.exit ?_))
  refine VCode.freeze (id := 1) rfl ?_
  refine VCode.retD rfl rfl (.tmp rfl .nil) ?_
  have : out = spots g := by
   rw [hout]
   unfold spots
   by_cases hG : GoodG g
   ·rw [if_pos hG, List.take_of_length_le hge]
   ·rw [if_neg hG]
    have hk0 : k = 0 := by
     rcases Nat.eq_zero_or_pos k with h | h
     ·exact h
     ·exact absurd (hG1 h) hG
    subst hk0; rfl
  rw [this]; rfl
end Go.Proofs.Ytfjfbapiheehaaa.V
end
section
set_option linter.unusedVariables false
set_option linter.unusedSimpArgs false
namespace Go.Proofs.Ytfjfbapiheehaaa.V
open Go Go.RowKit
theorem firstAt_cases {α : Type} (p : α → Bool) (l : List α) : (firstAt p l = -1 ∧ ∀ x ∈ l, p x = false) ∨ ∃ (k : Nat) (y : α), firstAt p l = (k : Int) ∧ l[k]? = some y ∧ p y = true ∧ ∀ x ∈ l.take k, p x = false := by
 unfold firstAt
 cases h : l.findIdx? p with
 | none => rw [List.findIdx?_eq_none_iff] at h; exact .inl ⟨rfl, h⟩
 | some k =>
  rw [List.findIdx?_eq_some_iff_getElem] at h
  obtain ⟨hlt, h1, h2⟩ := h
  refine .inr ⟨k, l[k], rfl, List.getElem?_eq_getElem hlt, h1, fun x hx => ?_⟩
  obtain ⟨j, hj, rfl⟩ := List.mem_take_iff_getElem.1 hx
  have := h2 j (by omega)
  simpa using this
structure Kept {α : Type} (p : α → Bool) (l ys : List α) (i j : Nat) : Prop where
 len : ys.length = l.length
 lt : i < j
 le : j ≤ l.length
 kept : ys.take i = (l.take j).filter fun x => !p x
 cnt : i = ((l.take j).filter fun x => !p x).length
 rest : ys.drop j = l.drop j
theorem Kept.get {α : Type} {p : α → Bool} {l ys : List α} {i j k : Nat} (h : Kept p l ys i j) (hk : j ≤ k) : ys[k]? = l[k]? := by
 have := congrArg (fun z : List α => z[k - j]?) h.rest
 simp only [List.getElem?_drop] at this
 rwa [show j + (k - j) = k by omega] at this
theorem take_filter {α : Type} {p : α → Bool} {l : List α} {j : Nat} {e : α} (h : l[j]? = some e) : (l.take (j + 1)).filter p = (l.take j).filter p ++ if p e then [e] else [] := by
 rw [List.take_add_one, h, List.filter_append]
 cases hp : p e <;> simp [hp]
theorem Kept.start {α : Type} {p : α → Bool} {l : List α} {k : Nat} {y : α} (hk : l[k]? = some y) (hy : p y = true) (hno : ∀ x ∈ l.take k, p x = false) : Kept p l l k (k + 1) := by
 have hlt : k < l.length := (List.getElem?_eq_some_iff.1 hk).1
 have e : (l.take (k + 1)).filter (fun x => !p x) = l.take k := by
  rw [take_filter hk, hy, List.filter_eq_self.2 (fun x hx => by rw [hno x hx]; rfl)]; simp
 exact ⟨rfl, by omega, by omega, e.symm, by rw [e, List.length_take]; omega, rfl⟩
theorem Kept.keep {α : Type} {p : α → Bool} {l ys : List α} {i j : Nat} {e : α} (h : Kept p l ys i j) (he : l[j]? = some e) (hp : p e = false) : Kept p l (ys.set i e) (i + 1) (j + 1) := by
 have hlt : j < l.length := (List.getElem?_eq_some_iff.1 he).1
 have hl := h.lt
 have hys := h.len
 have e1 : (l.take (j + 1)).filter (fun x => !p x) = (l.take j).filter (fun x => !p x) ++ [e] := by rw [take_filter he, hp]; rfl
 refine ⟨by rw [List.length_set, hys], by omega, by omega, ?_, by rw [e1, List.length_append, ← h.cnt]; rfl, ?_⟩
 ·rw [e1, ← h.kept]
  rw [List.take_add_one, List.getElem?_set, if_pos rfl, if_pos (by omega)]
  simp [List.take_set_of_le (Nat.le_refl i)]
 ·rw [List.drop_set_of_lt (by omega)]
  have := congrArg (fun z : List α => z.drop 1) h.rest
  simpa [List.drop_drop, Nat.add_comm] using this
theorem Kept.drop {α : Type} {p : α → Bool} {l ys : List α} {i j : Nat} {e : α} (h : Kept p l ys i j) (he : l[j]? = some e) (hp : p e = true) : Kept p l ys i (j + 1) := by
 have hlt : j < l.length := (List.getElem?_eq_some_iff.1 he).1
 have hl := h.lt
 have e1 : (l.take (j + 1)).filter (fun x => !p x) = (l.take j).filter (fun x => !p x) := by rw [take_filter he, hp]; simp
 refine ⟨h.len, by omega, by omega, by rw [e1, h.kept], by rw [e1, ← h.cnt], ?_⟩
 have := congrArg (fun z : List α => z.drop 1) h.rest
 simpa [List.drop_drop, Nat.add_comm] using this
theorem Kept.done {α : Type} {p : α → Bool} {l ys : List α} {i : Nat} (h : Kept p l ys i l.length) : ys.take i = l.filter fun x => !p x := by
 rw [h.kept, List.take_length]
abbrev wO (w : List Spot) : O := .cells 26 [sV w]
set_option maxHeartbeats 1000000 in
theorem rest1_v (w : List Spot) (x : Spot) (hw : w.length ≤ 1000000) : VCalls Try.prog 64 [pV x, .ptr 0 0] [(0, wO w)] 1 (Leaves (.val (.bool (isIn w x))) [(0, wO w)] 1) := by
 refine VCalls.enterL (n := 7) Try.func64 rfl rfl (by simp) (fun cx hcx => ?_)
 (repeat (first | ((with_reducible refine VOps.same ?_); (first | (refine VOps.nil ?_; try dsimp only [VThen, VBlock]) | refine VOps.vP (VPure.assign rfl rfl) ?_ | refine VOps.vV (VLoad.box1 rfl rfl rfl rfl (by rfl) (by decide)) ?_ | refine VOps.vV (VLoad.boxA rfl rfl rfl (by rfl) (leR (by rfl)) (by decide)) ?_ | refine VOps.box rfl rfl (by kernel_rfl) rfl rfl rfl rfl ?_)) | refine VCode.seq ?_ | refine VCode.region rfl ?_))
 refine VOps.pure rfl Try.func65 rfl (by kernel_rfl) rfl rfl rfl rfl rfl rfl rfl (contP_v w x hw) ?_
 (repeat (first | ((with_reducible refine VOps.same ?_); (first | (refine VOps.nil ?_; try dsimp only [VThen, VBlock]) | refine VOps.vP (VPure.assign rfl rfl) ?_))))
 refine VCode.ret ?_
 (show Less cx _ _; refine Less.mkx (l := [0]) (st' := ⟨[(3, .val (.bool (isIn w x)))], [(0, wO w)], 1⟩) 1 hcx (Nat.le_of_ble_eq_true rfl) (by decide) ?ss ?hh rfl (by decide) rfl ⟨_, (.tmp rfl .nil), rfl, rfl, rfl⟩; (case ss => repeat (first | exact SubS.nil | refine SubS.cons rfl rfl ?_ | refine SubS.cons (ciI (by omega)) rfl ?_ | refine SubS.cons (ciB (by assumption)) rfl ?_)); (case hh => repeat (first | exact SubH.nil | refine SubH.cons rfl rfl rfl ?_)))
set_option maxHeartbeats 2000000 in
theorem idxW_v (w : List Spot) (l : List Spot) (hl : l.length ≤ 1000000) (hw : w.length ≤ 1000000) : VCalls Try.prog 66 [.ref 1, .fn 64 [.ptr 0 0]] [(0, wO w), (1, .arr 44 2 (l.map encP))] 2 (Leaves (.val (.int .i64 (firstAt (isIn w) l))) [(0, wO w), (1, .arr 44 2 (l.map encP))] 2) := by
 refine VCalls.enterL (n := 19) Try.func66 rfl rfl (by simp) (fun cx hcx => ?_)
 (repeat (first | ((with_reducible refine VOps.same ?_); (first | (refine VOps.nil ?_; try dsimp only [VThen, VBlock]) | refine VOps.vP (VPure.move rfl rfl) ?_ | refine VOps.vP (VPure.assign rfl rfl) ?_ | refine VOps.vP (VPure.len_arr TI.und' rfl rfl rfl) ?_)) | refine VCode.seq ?_ | refine VCode.region rfl ?_ | refine VCode.block ?_))
 refine VCode.says (d := 7) (v := .val (.int .i64 (l.length : Int))) rfl (by rw [List.length_map]) ?_
 refine VCode.loop (fun m st => ∃ k : Nat, k ≤ l.length ∧ m = l.length - k ∧ (∀ y ∈ l.take k, (isIn w) y = false) ∧ st = ⟨[(8, .val (.int .i64 (k : Int))), (7, .val (.int .i64 (l.length : Int))), (0, .ref 1), (1, .fn 64 [.ptr 0 0])], [(0, wO w), (1, .arr 44 2 (l.map encP))], 2⟩) l.length ?_ ?_
 ·(refine Less.mkx (l := [0, 1]) 2 hcx (by exact Nat.le_of_ble_eq_true rfl) (by decide) ?ss ?hh rfl (by decide) rfl ⟨0, by omega, by omega, by simp, rfl⟩; (case ss => repeat (first | exact SubS.nil | refine SubS.cons rfl rfl ?_ | refine SubS.cons (ciI (by omega)) rfl ?_ | refine SubS.cons (ciB (by assumption)) rfl ?_)); (case hh => repeat (first | exact SubH.nil | refine SubH.cons rfl rfl rfl ?_)))
 rintro m st ⟨k, hk, rfl, hb, rfl⟩
 cases ht : l[k]? with
 | some e =>
  have hlt : k < l.length := (List.getElem?_eq_some_iff.1 ht).1
  (repeat (first | ((with_reducible refine VOps.same ?_); (first | (refine VOps.nil ?_; try dsimp only [VThen, VBlock]) | refine VOps.vP (VPure.lss rfl rfl rfl) ?_)) | refine VCode.seq ?_ | refine VCode.region rfl ?_))
  refine VCode.cond_t rfl (decide_eq_true (by omega)) ?_
  (repeat (first | ((with_reducible refine VOps.same ?_); (first | (refine VOps.nil ?_; try dsimp only [VThen, VBlock]) | refine VOps.vP (VPure.move rfl rfl) ?_ | refine VOps.vP (VPure.assign rfl rfl) ?_ | refine VOps.vP (VPure.idx_arrm rfl rfl rfl rfl (by assumption)) ?_ | refine VOps.vV (VLoad.arrAm rfl rfl rfl (by rfl) (by assumption) rfl (leR (by rfl)) (by decide)) ?_)) | refine VCode.seq ?_ | refine VCode.region rfl ?_ | refine VCode.block ?_ | refine VCode.skip ?_))
  (refine VOps.callL (ch := [(0, wO w)]) [0] rfl Try.func64 rfl (by kernel_rfl) rfl rfl rfl rfl ?hh (by decide) rfl rfl rfl (rest1_v w e hw) rfl (by rfl) rfl ?_; (case hh => repeat (first | exact SubH.nil | refine SubH.cons rfl rfl rfl ?_)))
  (repeat (first | ((with_reducible refine VOps.same ?_); (first | (refine VOps.nil ?_; try dsimp only [VThen, VBlock])))))
  refine VCode.cond rfl (fun hp => ?_) (fun hp => ?_)
  ·(repeat (first | ((with_reducible refine VOps.same ?_); (first | (refine VOps.nil ?_; try dsimp only [VThen, VBlock]) | refine VOps.vP (VPure.move rfl rfl) ?_ | refine VOps.vP (VPure.assign rfl rfl) ?_)) | refine VCode.seq ?_ | refine VCode.region rfl ?_))
   refine VCode.ret ?_
   have hr : (k : Int) = firstAt (isIn w) l := (firstAt_some ht hp hb).symm
   (show Less cx _ _; refine Less.mkx (l := [0, 1]) (st' := ⟨[(4, .val (.int .i64 (firstAt (isIn w) l)))], [(0, wO w), (1, .arr 44 2 (l.map encP))], 2⟩) 2 hcx (Nat.le_of_ble_eq_true rfl) (by decide) ?ss ?hh rfl (by decide) rfl ⟨_, (.tmp rfl .nil), rfl, rfl, rfl⟩; (case ss => repeat (first | exact SubS.nil | refine SubS.cons rfl rfl ?_ | refine SubS.cons (ciI (by omega)) rfl ?_ | refine SubS.cons (ciB (by assumption)) rfl ?_)); (case hh => repeat (first | exact SubH.nil | refine SubH.cons rfl rfl rfl ?_)))
  ·(repeat (first | ((with_reducible refine VOps.same ?_); (first | (refine VOps.nil ?_; try dsimp only [VThen, VBlock]) | refine VOps.vP (VPure.move rfl rfl) ?_ | refine VOps.vP (VPure.addK rfl rfl rfl (by omega)) ?_)) | refine VCode.region rfl ?_ | refine VCode.skip ?_))
   (refine Less.mkx (l := [0, 1]) 2 hcx (by exact Nat.le_of_ble_eq_true rfl) (by decide) ?ss ?hh rfl (by decide) rfl ⟨_, ?_, k + 1, by omega, rfl, ?_, rfl⟩; (case ss => repeat (first | exact SubS.nil | refine SubS.cons rfl rfl ?_ | refine SubS.cons (ciI (by omega)) rfl ?_ | refine SubS.cons (ciB (by assumption)) rfl ?_)); (case hh => repeat (first | exact SubH.nil | refine SubH.cons rfl rfl rfl ?_)))
   ·omega
   ·exact take_no ht hb hp
 | none =>
  have hge : l.length ≤ k := List.getElem?_eq_none_iff.1 ht
  rw [List.take_of_length_le hge] at hb
  (repeat (first | ((with_reducible refine VOps.same ?_); (first | (refine VOps.nil ?_; try dsimp only [VThen, VBlock]) | refine VOps.vP (VPure.lss rfl rfl rfl) ?_)) | refine VCode.seq ?_ | refine VCode.region rfl ?_))
  refine VCode.cond_f rfl (decide_eq_false (by omega)) ?_
  (repeat (first | ((with_reducible refine VOps.same ?_); (first | (refine VOps.nil ?_; try dsimp only [VThen, VBlock]) | refine VOps.vP (VPure.assign rfl rfl) ?_)) | refine VCode.seq ?_ | refine VCode.region rfl ?_ | refine VCode.exit ?_))
  refine VCode.ret ?_
  have hr : -1 = firstAt (isIn w) l := (firstAt_none hb).symm
  (show Less cx _ _; refine Less.mkx (l := [0, 1]) (st' := ⟨[(4, .val (.int .i64 (firstAt (isIn w) l)))], [(0, wO w), (1, .arr 44 2 (l.map encP))], 2⟩) 2 hcx (Nat.le_of_ble_eq_true rfl) (by decide) ?ss ?hh rfl (by decide) rfl ⟨_, (.tmp rfl .nil), rfl, rfl, rfl⟩; (case ss => repeat (first | exact SubS.nil | refine SubS.cons rfl rfl ?_ | refine SubS.cons (ciI (by omega)) rfl ?_ | refine SubS.cons (ciB (by assumption)) rfl ?_)); (case hh => repeat (first | exact SubH.nil | refine SubH.cons rfl rfl rfl ?_)))
set_option maxHeartbeats 4000000 in
theorem delW_v (w : List Spot) (l : List Spot) (hl : l.length ≤ 1000000) (hw : w.length ≤ 1000000) : VCalls Try.prog 39 [.ref 1, .fn 64 [.ptr 0 0]] [(0, wO w), (1, .arr 44 2 (l.map encP))] 2 (Leaves (.ref 2) [(0, wO w), (2, .arr 44 2 ((l.filter fun x => !(isIn w) x).map encP))] 3) := by
 have hix := idxW_v w l hl hw
 refine VCalls.enterL (n := 42) Try.func39 rfl rfl (by simp) (fun cx hcx => ?_)
 (repeat (first | ((with_reducible refine VOps.same ?_); (first | (refine VOps.nil ?_; try dsimp only [VThen, VBlock]) | refine VOps.vP (VPure.move rfl rfl) ?_ | refine VOps.vP (VPure.assign rfl rfl) ?_)) | refine VCode.seq ?_ | refine VCode.region rfl ?_))
 rcases firstAt_cases (isIn w) l with ⟨he, hno⟩ | ⟨k, y, he, hk, hy, hno⟩
 ·rw [he] at hix
  (refine VOps.callL (ch := [(0, wO w), (1, .arr 44 2 (l.map encP))]) [0, 1] rfl Try.func66 rfl (by kernel_rfl) rfl rfl rfl rfl ?hh (by decide) rfl rfl rfl (hix) rfl (by rfl) rfl ?_; (case hh => repeat (first | exact SubH.nil | refine SubH.cons rfl rfl rfl ?_)))
  (repeat (first | ((with_reducible refine VOps.same ?_); (first | (refine VOps.nil ?_; try dsimp only [VThen, VBlock]) | refine VOps.vP (VPure.move rfl rfl) ?_ | refine VOps.vP (VPure.assign rfl rfl) ?_ | refine VOps.vP (VPure.eqi rfl rfl rfl) ?_)) | refine VCode.seq ?_ | refine VCode.region rfl ?_))
  refine VCode.cond_t rfl rfl ?_
  (repeat (first | ((with_reducible refine VOps.same ?_); (first | (refine VOps.nil ?_; try dsimp only [VThen, VBlock]) | refine VOps.vP (VPure.move rfl rfl) ?_ | refine VOps.vP (VPure.assign rfl rfl) ?_)) | refine VCode.seq ?_ | refine VCode.region rfl ?_))
  refine VCode.againA (id := 1) rfl ?_
  refine VCode.ret ?_
  have hf : (l.filter fun x => !(isIn w) x) = l := List.filter_eq_self.2 (fun x hx => by simpa using hno x hx)
  rw [hf]
  (show Less cx _ _; refine Less.mkx (l := [0, 1, 2]) (st' := ⟨[(4, .ref 2)], [(0, wO w), (2, .arr 44 2 (l.map encP))], 3⟩) 2 hcx (Nat.le_of_ble_eq_true rfl) (by decide) ?ss ?hh rfl (by decide) rfl ⟨_, (.tmp rfl .nil), rfl, rfl, rfl⟩; (case ss => repeat (first | exact SubS.nil | refine SubS.cons rfl rfl ?_ | refine SubS.cons (ciI (by omega)) rfl ?_ | refine SubS.cons (ciB (by assumption)) rfl ?_)); (case hh => repeat (first | exact SubH.nil | refine SubH.cons rfl rfl rfl ?_)))
 ·rw [he] at hix
  have hklt : k < l.length := (List.getElem?_eq_some_iff.1 hk).1
  (refine VOps.callL (ch := [(0, wO w), (1, .arr 44 2 (l.map encP))]) [0, 1] rfl Try.func66 rfl (by kernel_rfl) rfl rfl rfl rfl ?hh (by decide) rfl rfl rfl (hix) rfl (by rfl) rfl ?_; (case hh => repeat (first | exact SubH.nil | refine SubH.cons rfl rfl rfl ?_)))
  (repeat (first | ((with_reducible refine VOps.same ?_); (first | (refine VOps.nil ?_; try dsimp only [VThen, VBlock]) | refine VOps.vP (VPure.move rfl rfl) ?_ | refine VOps.vP (VPure.assign rfl rfl) ?_ | refine VOps.vP (VPure.eqi rfl rfl rfl) ?_)) | refine VCode.seq ?_ | refine VCode.region rfl ?_))
  refine VCode.cond_f rfl (decide_eq_false (by omega)) ?_
  (repeat (first | ((with_reducible refine VOps.same ?_); (first | (refine VOps.nil ?_; try dsimp only [VThen, VBlock]) | refine VOps.vP (VPure.move rfl rfl) ?_ | refine VOps.vP (VPure.assign rfl rfl) ?_ | refine VOps.vP (VPure.addK rfl rfl rfl (by omega)) ?_)) | refine VCode.seq ?_ | refine VCode.region rfl ?_ | refine VCode.block ?_ | refine VCode.skip ?_))
  refine VCode.loop (fun m st => ∃ (i j : Nat) (ys : List Spot), j ≤ l.length ∧ m = l.length - j ∧ Kept (isIn w) l ys i j ∧ st = ⟨[(5, .val (.int .i64 (i : Int))), (6, .val (.int .i64 (j : Int))), (0, .ref 1), (1, .fn 64 [.ptr 0 0])], [(0, wO w), (1, .arr 44 2 (ys.map encP))], 2⟩) (l.length - (k + 1)) ?_ ?_
  ·(refine Less.mkx (l := [0, 1]) 2 hcx (by exact Nat.le_of_ble_eq_true rfl) (by decide) ?ss ?hh rfl (by decide) rfl ⟨k, k + 1, l, by omega, by omega, Kept.start hk hy hno, rfl⟩; (case ss => repeat (first | exact SubS.nil | refine SubS.cons rfl rfl ?_ | refine SubS.cons (ciI (by omega)) rfl ?_ | refine SubS.cons (ciB (by assumption)) rfl ?_)); (case hh => repeat (first | exact SubH.nil | refine SubH.cons rfl rfl rfl ?_)))
  rintro m st ⟨i, j, ys, hj, rfl, hK, rfl⟩
  have hys := hK.len
  have hml : (ys.map encP).length = ys.length := List.length_map ..
  have hij := hK.lt
  cases ht : l[j]? with
  | some e =>
   have hlt : j < l.length := (List.getElem?_eq_some_iff.1 ht).1
   have hte : ys[j]? = some e := (hK.get (Nat.le_refl _)).trans ht
   obtain ⟨o, ho⟩ : ∃ o, ys[i]? = some o := ⟨_, List.getElem?_eq_getElem (by omega)⟩
   (repeat (first | ((with_reducible refine VOps.same ?_); (first | (refine VOps.nil ?_; try dsimp only [VThen, VBlock]) | refine VOps.vP (VPure.move rfl rfl) ?_ | refine VOps.vP (VPure.len_arr TI.und' rfl rfl rfl) ?_ | refine VOps.vP (VPure.lss rfl rfl rfl) ?_)) | refine VCode.seq ?_ | refine VCode.region rfl ?_))
   refine VCode.cond_t rfl (decide_eq_true (by omega)) ?_
   (repeat (first | ((with_reducible refine VOps.same ?_); (first | (refine VOps.nil ?_; try dsimp only [VThen, VBlock]) | refine VOps.vP (VPure.move rfl rfl) ?_ | refine VOps.vP (VPure.idx_arrm rfl rfl rfl rfl (by assumption)) ?_ | refine VOps.vV (VLoad.boxA rfl rfl rfl (by rfl) (leR (by rfl)) (by decide)) ?_ | refine VOps.vV (VLoad.arrAm rfl rfl rfl (by rfl) (by assumption) rfl (leR (by rfl)) (by decide)) ?_ | refine VOps.alloc rfl rfl (by kernel_rfl) rfl (by kernel_rfl) rfl ?_ | refine VOps.store rfl rfl (by kernel_rfl) rfl rfl rfl rfl rfl rfl (leR (by rfl)) rfl ?_)) | refine VCode.seq ?_ | refine VCode.region rfl ?_ | refine VCode.block ?_ | refine VCode.skip ?_))
   (refine VOps.callL (ch := [(0, wO w)]) [0] rfl Try.func64 rfl (by kernel_rfl) rfl rfl rfl rfl ?hh (by decide) rfl rfl rfl (rest1_v w e hw) rfl (by rfl) rfl ?_; (case hh => repeat (first | exact SubH.nil | refine SubH.cons rfl rfl rfl ?_)))
   (repeat (first | ((with_reducible refine VOps.same ?_); (first | (refine VOps.nil ?_; try dsimp only [VThen, VBlock]) | refine VOps.vP (VPure.not rfl rfl) ?_))))
   refine VCode.cond rfl (fun hp => ?_) (fun hp => ?_)
   ·(repeat (first | ((with_reducible refine VOps.same ?_); (first | refine VOps.vP (VPure.move rfl rfl) ?_ | refine VOps.vP (VPure.idx_arrm rfl rfl rfl rfl (by assumption)) ?_ | refine VOps.vV (VLoad.boxA rfl rfl rfl (by rfl) (leR (by rfl)) (by decide)) ?_)) | refine VCode.seq ?_ | refine VCode.region rfl ?_))
    refine VOps.store_arrm (u' := e ) (ys :=  ys.set i e) rfl rfl (by kernel_rfl) rfl rfl rfl rfl (by rfl) (by assumption) rfl rfl (by first | decide | exact Nat.le_of_ble_eq_true (by rfl)) (by rfl) (by rfl) ?_
    (repeat (first | ((with_reducible refine VOps.same ?_); (first | (refine VOps.nil ?_; try dsimp only [VThen, VBlock]) | refine VOps.vP (VPure.move rfl rfl) ?_ | refine VOps.vP (VPure.assign rfl rfl) ?_ | refine VOps.vP (VPure.addK rfl rfl rfl (by omega)) ?_)) | refine VCode.region rfl ?_))
    (refine Less.mkx (l := [0, 1]) 2 hcx (by exact Nat.le_of_ble_eq_true rfl) (by decide) ?ss ?hh rfl (by decide) rfl ⟨_, ?_, i + 1, j + 1, ys.set i e, by omega, rfl, hK.keep ht (by simpa using hp), rfl⟩; (case ss => repeat (first | exact SubS.nil | refine SubS.cons rfl rfl ?_ | refine SubS.cons (ciI (by omega)) rfl ?_ | refine SubS.cons (ciB (by assumption)) rfl ?_)); (case hh => repeat (first | exact SubH.nil | refine SubH.cons rfl rfl rfl ?_)))
    omega
   ·(repeat (first | ((with_reducible refine VOps.same ?_); (first | (refine VOps.nil ?_; try dsimp only [VThen, VBlock]) | refine VOps.vP (VPure.move rfl rfl) ?_ | refine VOps.vP (VPure.assign rfl rfl) ?_ | refine VOps.vP (VPure.addK rfl rfl rfl (by omega)) ?_)) | refine VCode.region rfl ?_ | refine VCode.skip ?_))
    (refine Less.mkx (l := [0, 1]) 2 hcx (by exact Nat.le_of_ble_eq_true rfl) (by decide) ?ss ?hh rfl (by decide) rfl ⟨_, ?_, i, j + 1, ys, by omega, rfl, hK.drop ht (by simpa using hp), rfl⟩; (case ss => repeat (first | exact SubS.nil | refine SubS.cons rfl rfl ?_ | refine SubS.cons (ciI (by omega)) rfl ?_ | refine SubS.cons (ciB (by assumption)) rfl ?_)); (case hh => repeat (first | exact SubH.nil | refine SubH.cons rfl rfl rfl ?_)))
    omega
  | none =>
   have hge : l.length ≤ j := List.getElem?_eq_none_iff.1 ht
   obtain rfl : j = l.length := by omega
   (repeat (first | ((with_reducible refine VOps.same ?_); (first | (refine VOps.nil ?_; try dsimp only [VThen, VBlock]) | refine VOps.vP (VPure.move rfl rfl) ?_ | refine VOps.vP (VPure.len_arr TI.und' rfl rfl rfl) ?_ | refine VOps.vP (VPure.lss rfl rfl rfl) ?_)) | refine VCode.seq ?_ | refine VCode.region rfl ?_))
   refine VCode.cond_f rfl (decide_eq_false (by omega)) ?_
   (repeat (first | ((with_reducible refine VOps.same ?_); (first | refine VOps.vP (VPure.move rfl rfl) ?_)) | refine VCode.seq ?_ | refine VCode.region rfl ?_ | refine VCode.exit ?_))
   refine VOps.clear (zs := (ys.take i ++ List.replicate (ys.length - i) ((0, 0) : Spot)).map encP) rfl rfl rfl rfl rfl rfl rfl rfl rfl (by kernel_rfl) (by rfl) (by decide) (by rw [List.length_map]; omega) (by rw [List.map_append, List.map_take, List.map_replicate, List.length_map]; rfl) ?_
   (repeat (first | ((with_reducible refine VOps.same ?_); (first | (refine VOps.nil ?_; try dsimp only [VThen, VBlock]) | refine VOps.vP (VPure.move rfl rfl) ?_)) | refine VCode.seq ?_ | refine VCode.region rfl ?_))
   refine VOps.cut_own (zs := (l.filter fun x => !(isIn w) x).map encP) rfl (by kernel_rfl) rfl rfl rfl rfl rfl (by simp; omega) (by rw [← List.map_take, List.take_append_of_le_length (by rw [List.length_take]; omega), List.take_take, Nat.min_self, hK.done]) ?_
   (repeat (first | ((with_reducible refine VOps.same ?_); (first | (refine VOps.nil ?_; try dsimp only [VThen, VBlock]) | refine VOps.vP (VPure.assign rfl rfl) ?_))))
   refine VCode.ret ?_
   (show Less cx _ _; refine Less.mkx (l := [0, 1, 2]) (st' := ⟨[(4, .ref 2)], [(0, wO w), (2, .arr 44 2 ((l.filter fun x => !(isIn w) x).map encP))], 3⟩) 2 hcx (Nat.le_of_ble_eq_true rfl) (by decide) ?ss ?hh rfl (by decide) rfl ⟨_, (.tmp rfl .nil), rfl, rfl, rfl⟩; (case ss => repeat (first | exact SubS.nil | refine SubS.cons rfl rfl ?_ | refine SubS.cons (ciI (by omega)) rfl ?_ | refine SubS.cons (ciB (by assumption)) rfl ?_)); (case hh => repeat (first | exact SubH.nil | refine SubH.cons rfl rfl rfl ?_)))
set_option maxHeartbeats 2000000 in
theorem rest_o (g : Gr) (w : List Spot) (hg : Sized g) (hw : w.length ≤ 1000000) : VCalls Try.prog 36 [gV g, sV w] [] 0 (Leaves (.ref 0) [(0, .arr 44 2 ((restS g w).map encP))] 1) := by
 have hl := spots_len g
 refine VCalls.enterL (n := 9) Try.func36 rfl rfl (by simp) (fun cx hcx => ?_)
 (repeat (first | ((with_reducible refine VOps.same ?_); (first | (refine VOps.nil ?_; try dsimp only [VThen, VBlock]) | refine VOps.vP (VPure.assign rfl rfl) ?_ | refine VOps.vV (VLoad.boxA rfl rfl rfl (by rfl) (leR (by rfl)) (by decide)) ?_ | refine VOps.box rfl rfl (by kernel_rfl) rfl rfl rfl rfl ?_)) | refine VCode.seq ?_ | refine VCode.region rfl ?_))
 (refine VOps.callL (ch := []) [] rfl Try.func18 rfl (by kernel_rfl) rfl rfl rfl rfl ?hh (by decide) rfl rfl rfl (spots_o g hg) rfl (by rfl) rfl ?_; (case hh => repeat (first | exact SubH.nil | refine SubH.cons rfl rfl rfl ?_)))
 (repeat (first | ((with_reducible refine VOps.same ?_); (first | refine VOps.vP (VPure.fnE rfl rfl) ?_))))
 (refine VOps.callL (ch := [(0, wO w), (1, .arr 44 2 ((spots g).map encP))]) [1, 2] rfl Try.func39 rfl (by kernel_rfl) rfl rfl rfl rfl ?hh (by decide) rfl rfl rfl (delW_v w (spots g) (by omega) hw) rfl (by rfl) rfl ?_; (case hh => repeat (first | exact SubH.nil | refine SubH.cons rfl rfl rfl ?_)))
 (repeat (first | ((with_reducible refine VOps.same ?_); (first | (refine VOps.nil ?_; try dsimp only [VThen, VBlock]) | refine VOps.vP (VPure.assign rfl rfl) ?_))))
 refine VCode.ret ?_
 (show Less cx _ _; refine Less.mkx (l := [3]) (st' := ⟨[(4, .ref 0)], [(0, .arr 44 2 ((restS g w).map encP))], 1⟩) 0 hcx (Nat.le_of_ble_eq_true rfl) (by decide) ?ss ?hh rfl (by decide) rfl ⟨_, (.tmp rfl .nil), rfl, rfl, rfl⟩; (case ss => repeat (first | exact SubS.nil | refine SubS.cons rfl rfl ?_ | refine SubS.cons (ciI (by omega)) rfl ?_ | refine SubS.cons (ciB (by assumption)) rfl ?_)); (case hh => repeat (first | exact SubH.nil | refine SubH.cons rfl rfl rfl ?_)))
end Go.Proofs.Ytfjfbapiheehaaa.V
end
section
set_option linter.unusedVariables false
set_option linter.unusedSimpArgs false
namespace Go.Proofs.Ytfjfbapiheehaaa.V
open Go Go.RowKit Go.Proofs.Ytfjfbapiheehaaa.DG
def encB (b : Bool) : List D := [.val (.bool b)]
def encN (k : Nat) : List D := [.val (.int .i64 (k : Int))]
def encRow (r : List Bool) : List D := [.sl 1 (r.map encB)]
theorem take_map_edge {g : Gr} {l : List Spot} {j : Nat} {y : Spot} (h : l[j]? = some y) (s : List Nat × List Bool) (x : Nat) : ((l.take (j + 1)).map (edge g)).foldl (visit x) s = visit x (((l.take j).map (edge g)).foldl (visit x) s) (edge g y) := by
 rw [List.take_add_one, h, List.map_append, List.foldl_append]; rfl
set_option maxHeartbeats 4000000 in
theorem from_v {g : Gr} (hg : Sized g) {l : List Spot} (hl : ∀ y ∈ l, y ∈ spots g) (hll : l.length ≤ 1000) {a : Nat} (ha : a < g.names.length) {r : List Bool} (hr : bfs (l.map (edge g)) (g.names.length + 2) [a] (List.replicate g.names.length false) = some r) : VCalls Try.prog 37 [gV g, sV l, .val (.int .i64 (a : Int))] [] 0 (Gives (.sl 1 (r.map encB))) := by
 have ht := hg.terms
 have hn := hg.names
 refine VCalls.enterD (n := 58) Try.func37 rfl rfl (by simp) rfl (fun cx hcx => ?_)
 (repeat (first | ((with_reducible refine VOps.same ?_); (first | (refine VOps.nil ?_; try dsimp only [VThen, VBlock]) | refine VOps.vP (VPure.assign rfl rfl) ?_ | refine VOps.vP (VPure.len_map TI.und' rfl rfl) ?_ | refine VOps.vP (VPure.field_ptr rfl rfl rfl) ?_ | refine VOps.vV (VLoad.box1 rfl rfl rfl rfl (by rfl) (by decide)) ?_ | refine VOps.box rfl rfl (by kernel_rfl) rfl rfl rfl rfl ?_)) | refine VCode.seq ?_ | refine VCode.region rfl ?_))
 (refine VOps.make (f := encB) (a := false) rfl rfl (by kernel_rfl) rfl (by kernel_rfl) (by rfl) (by decide) rfl rfl ?b1 ?b2 (by rfl) ?_; (case b1 => unfold most; (first | omega | (simp only [List.length_map, List.length_append, List.length_cons, List.length_nil] at *; omega) | (simp; omega))); (case b2 => unfold most; (first | omega | (simp only [List.length_map, List.length_append, List.length_cons, List.length_nil] at *; omega) | (simp; omega))))
 (repeat (first | ((with_reducible refine VOps.same ?_); (first | (refine VOps.nil ?_; try dsimp only [VThen, VBlock]) | refine VOps.vP (VPure.move rfl rfl) ?_ | refine VOps.vP (VPure.assign rfl rfl) ?_ | refine VOps.vP (VPure.len_arr TI.und' rfl rfl rfl) ?_ | refine VOps.vP (VPure.add rfl rfl rfl) ?_)) | refine VCode.seq ?_ | refine VCode.region rfl ?_))
 refine VOps.says (d := 20) (v := .val (.int .i64 ((g.names.length + 1 : Nat) : Int))) rfl (by simp; exact wrap_in (by omega)) ?_
 (repeat (first | ((with_reducible refine VOps.same ?_); (first | (refine VOps.nil ?_; try dsimp only [VThen, VBlock]) | refine VOps.vP (VPure.move rfl rfl) ?_ | refine VOps.vP (VPure.assign rfl rfl) ?_ | (refine VOps.makeChan rfl rfl (by kernel_rfl) rfl rfl ?b1 ?b2 ?_; (case b1 => unfold most; (first | omega | (simp only [List.length_map, List.length_append, List.length_cons, List.length_nil] at *; omega) | (simp; omega))); (case b2 => unfold most; (first | omega | (simp only [List.length_map, List.length_append, List.length_cons, List.length_nil] at *; omega) | (simp; omega)))))) | refine VCode.seq ?_ | refine VCode.region rfl ?_))
 (refine VOps.sendP (buf' := [a].map encN) rfl rfl rfl rfl rfl rfl (by rfl) ?b1 ( by rfl) ?_; (case b1 => (first | omega | (simp only [List.length_map, List.length_append, List.length_cons, List.length_nil] at *; omega) | (simp; omega))))
 (repeat (first | ((with_reducible refine VOps.same ?_); (first | (refine VOps.nil ?_; try dsimp only [VThen, VBlock]))) | refine VCode.block ?_))
 refine VCode.loop (fun m st => ∃ (q : List Nat) (bs : List Bool), bfs (l.map (edge g)) m q bs = some r ∧ q.length + falses bs ≤ g.names.length + 1 ∧ bs.length = g.names.length ∧ st = ⟨[(7, .ref 1), (8, .ref 2), (1, sV l), (3, .ptr 0 0)], [(0, gO g), (1, .arr 4 1 (bs.map encB)), (2, .chan (g.names.length + 1) (q.map encN) false)], 3⟩) (g.names.length + 2) ?_ ?_
 ·(refine Less.mk (l := [0, 1, 2]) hcx ?ss ?hh rfl (by decide) rfl ⟨[a], List.replicate g.names.length false, hr, by simp [falses_rep]; omega, by simp, rfl⟩; (case ss => repeat (first | exact SubS.nil | refine SubS.cons rfl rfl ?_ | refine SubS.cons (ciI (by omega)) rfl ?_ | refine SubS.cons (ciB (by assumption)) rfl ?_)); (case hh => repeat (first | exact SubH.nil | refine SubH.cons rfl rfl rfl ?_)))
 rintro m st ⟨q, bs, hr, hfit, hlen, rfl⟩
 cases m with
 | zero => cases hr
 | succ m =>
 cases q with
 | nil =>
  obtain rfl : bs = r := Option.some.inj hr
  (repeat (first | ((with_reducible refine VOps.same ?_); (first | (refine VOps.nil ?_; try dsimp only [VThen, VBlock]) | refine VOps.vP (VPure.move rfl rfl) ?_ | refine VOps.vP (VPure.extract rfl rfl rfl) ?_ | refine VOps.vP (VPure.eqi rfl rfl rfl) ?_ | refine VOps.sel_none rfl rfl rfl rfl rfl ?_)) | refine VCode.seq ?_ | refine VCode.region rfl ?_ | refine VCode.block ?_))
  refine VCode.cond_f rfl rfl ?_
  (repeat (first | ((with_reducible refine VOps.same ?_); (first | (refine VOps.nil ?_; try dsimp only [VThen, VBlock]) | refine VOps.vP (VPure.move rfl rfl) ?_ | refine VOps.vP (VPure.assign rfl rfl) ?_)) | refine VCode.seq ?_ | refine VCode.region rfl ?_))
  refine VCode.freeze (id := 1) rfl ?_
  refine VCode.retD rfl rfl (.tmp rfl .nil) ?_
  rfl
 | cons x q =>
  have hr : bfs (l.map (edge g)) m ((l.map (edge g)).foldl (visit x) (q, bs)).1 ((l.map (edge g)).foldl (visit x) (q, bs)).2 = some r := hr
  simp only [List.length_cons] at hfit
  (repeat (first | ((with_reducible refine VOps.same ?_); (first | (refine VOps.nil ?_; try dsimp only [VThen, VBlock]) | refine VOps.vP (VPure.move rfl rfl) ?_ | refine VOps.vP (VPure.extract rfl rfl rfl) ?_ | refine VOps.vP (VPure.eqi rfl rfl rfl) ?_ | refine VOps.sel_some rfl rfl rfl rfl rfl ?_)) | refine VCode.seq ?_ | refine VCode.region rfl ?_ | refine VCode.block ?_))
  refine VCode.cond_t rfl rfl ?_
  (repeat (first | ((with_reducible refine VOps.same ?_); (first | (refine VOps.nil ?_; try dsimp only [VThen, VBlock]) | refine VOps.vP (VPure.move rfl rfl) ?_ | refine VOps.vP (VPure.assign rfl rfl) ?_ | refine VOps.vP (VPure.extract rfl rfl rfl) ?_ | refine VOps.vP (VPure.len_map TI.und' rfl rfl) ?_)) | refine VCode.seq ?_ | refine VCode.region rfl ?_ | refine VCode.block ?_))
  refine VCode.loop (fun m' st => ∃ (j : Nat) (q' : List Nat) (bs' : List Bool), j ≤ l.length ∧ m' = l.length - j ∧ (q', bs') = ((l.take j).map (edge g)).foldl (visit x) (q, bs) ∧ st = ⟨[(32, .val (.int .i64 (j : Int))), (31, .val (.int .i64 (l.length : Int))), (30, sV l), (9, .val (.int .i64 (x : Int))), (7, .ref 1), (8, .ref 2), (1, sV l), (3, .ptr 0 0)], [(0, gO g), (1, .arr 4 1 (bs'.map encB)), (2, .chan (g.names.length + 1) (q'.map encN) false)], 3⟩) l.length ?_ ?_
  ·(refine Less.mk (l := [0, 1, 2]) hcx ?ss ?hh rfl (by decide) rfl ⟨0, q, bs, by omega, by omega, rfl, rfl⟩; (case ss => repeat (first | exact SubS.nil | refine SubS.cons rfl rfl ?_ | refine SubS.cons (ciI (by omega)) rfl ?_ | refine SubS.cons (ciB (by assumption)) rfl ?_)); (case hh => repeat (first | exact SubH.nil | refine SubH.cons rfl rfl rfl ?_)))
  rintro m' st ⟨j, q', bs', hj, rfl, hqb, rfl⟩
  have hv := visits_len x ((l.take j).map (edge g)) (q, bs)
  rw [← hqb] at hv
  simp only at hv
  cases hy : l[j]? with
  | some y =>
   have hlt : j < l.length := (List.getElem?_eq_some_iff.1 hy).1
   obtain ⟨_, i1, j1, r1, s1, a1, b1, hat⟩ := spot_at (hl y (List.mem_of_getElem? hy))
   have hst := take_map_edge (g := g) hy (q, bs) x
   rw [← hqb, hat.he] at hst
   have hb1 : b1 < bs'.length := by rw [hv.2, hlen]; exact hat.hb
   obtain ⟨v, hvb⟩ : ∃ v, bs'[b1]? = some v := ⟨_, List.getElem?_eq_getElem hb1⟩
   have hgv : bs'.getD b1 true = v := by rw [List.getD_eq_getElem?_getD, hvb]; rfl
   (repeat (first | ((with_reducible refine VOps.same ?_); (first | (refine VOps.nil ?_; try dsimp only [VThen, VBlock]) | refine VOps.vP (VPure.lss rfl rfl rfl) ?_)) | refine VCode.seq ?_ | refine VCode.region rfl ?_))
   refine VCode.cond_t rfl (decide_eq_true (by omega)) ?_
   (repeat (first | ((with_reducible refine VOps.same ?_); (first | (refine VOps.nil ?_; try dsimp only [VThen, VBlock]) | refine VOps.vP (VPure.idx_map rfl rfl rfl (by assumption)) ?_ | refine VOps.vV (VLoad.elA rfl rfl (by rfl) (leR (by rfl))) ?_ | refine VOps.vV (VLoad.boxA rfl rfl rfl (by rfl) (leR (by rfl)) (by decide)) ?_ | refine VOps.alloc rfl rfl (by kernel_rfl) rfl (by kernel_rfl) rfl ?_ | refine VOps.store rfl rfl (by kernel_rfl) rfl rfl rfl rfl rfl rfl (leR (by rfl)) rfl ?_)) | refine VCode.seq ?_ | refine VCode.region rfl ?_ | refine VCode.block ?_ | refine VCode.skip ?_))
   refine VOps.pure rfl Try.func41 rfl (by kernel_rfl) rfl rfl rfl rfl rfl rfl rfl (ends_v hg hat) ?_
   (repeat (first | ((with_reducible refine VOps.same ?_); (first | (refine VOps.nil ?_; try dsimp only [VThen, VBlock]) | refine VOps.vP (VPure.move rfl rfl) ?_ | refine VOps.vP (VPure.assign rfl rfl) ?_ | refine VOps.vP (VPure.extract rfl rfl rfl) ?_ | refine VOps.vP (VPure.eqi rfl rfl rfl) ?_)) | refine VCode.seq ?_ | refine VCode.region rfl ?_))
   refine VOps.bool (d := 45) rfl (fun c1 => ?_) (fun c1 => ?_)
   ·have c1 : a1 = x := by have := of_decide_eq_true c1; omega
    (repeat (first | ((with_reducible refine VOps.same ?_); (first | (refine VOps.nil ?_; try dsimp only [VThen, VBlock]) | refine VOps.vP (VPure.move rfl rfl) ?_ | refine VOps.vP (VPure.idx_arrm rfl rfl rfl rfl (by assumption)) ?_ | refine VOps.vV (VLoad.arr1m rfl rfl rfl (by rfl) (by assumption) (by rfl) rfl (by decide)) ?_ | refine VOps.vP (VPure.not rfl rfl) ?_ | refine VOps.vP (VPure.pick_t rfl rfl rfl) ?_))))
    refine VCode.cond rfl (fun c2 => ?_) (fun c2 => ?_)
    ·have c2 : v = false := by simpa using c2
     subst c2
     have hvis : visit x (q', bs') (a1, b1) = (q' ++ [b1], bs'.set b1 true) := by unfold visit; rw [if_pos ⟨c1, hgv⟩]
     have hroom := falses_set bs' b1 hgv
     rw [hvis] at hst
     (repeat (first | ((with_reducible refine VOps.same ?_); (first | refine VOps.vP (VPure.move rfl rfl) ?_ | refine VOps.vP (VPure.idx_arrm rfl rfl rfl rfl (by assumption)) ?_)) | refine VCode.seq ?_ | refine VCode.region rfl ?_))
     refine VOps.store_arrm (u' := true ) (ys :=  bs'.set b1 true) rfl rfl (by kernel_rfl) rfl rfl rfl rfl (by rfl) (by assumption) rfl rfl (by first | decide | exact Nat.le_of_ble_eq_true (by rfl)) (by rfl) (by rfl) ?_
     (repeat (first | ((with_reducible refine VOps.same ?_); (first | (refine VOps.nil ?_; try dsimp only [VThen, VBlock]) | refine VOps.vP (VPure.move rfl rfl) ?_)) | refine VCode.region rfl ?_))
     (refine VOps.sendP (buf' := (q' ++ [b1]).map encN) rfl rfl rfl rfl rfl rfl (by rfl) ?b1 ( by rw [List.map_append]; rfl) ?_; (case b1 => (first | omega | (simp only [List.length_map, List.length_append, List.length_cons, List.length_nil] at *; omega) | (simp; omega))))
     (repeat (first | ((with_reducible refine VOps.same ?_); (first | (refine VOps.nil ?_; try dsimp only [VThen, VBlock]) | refine VOps.vP (VPure.move rfl rfl) ?_ | refine VOps.vP (VPure.addK rfl rfl rfl (by omega)) ?_)) | refine VCode.region rfl ?_))
     (refine Less.mk (l := [0, 1, 2]) hcx ?ss ?hh rfl (by decide) rfl ⟨_, ?_, j + 1, q' ++ [b1], bs'.set b1 true, by omega, rfl, hst.symm, rfl⟩; (case ss => repeat (first | exact SubS.nil | refine SubS.cons rfl rfl ?_ | refine SubS.cons (ciI (by omega)) rfl ?_ | refine SubS.cons (ciB (by assumption)) rfl ?_)); (case hh => repeat (first | exact SubH.nil | refine SubH.cons rfl rfl rfl ?_)))
     omega
    ·have c2 : v = true := by simpa using c2
     have hvis : visit x (q', bs') (a1, b1) = (q', bs') := by unfold visit; rw [if_neg (fun h => by rw [hgv, c2] at h; cases h.2)]
     rw [hvis] at hst
     (repeat (first | ((with_reducible refine VOps.same ?_); (first | (refine VOps.nil ?_; try dsimp only [VThen, VBlock]) | refine VOps.vP (VPure.move rfl rfl) ?_ | refine VOps.vP (VPure.addK rfl rfl rfl (by omega)) ?_)) | refine VCode.region rfl ?_ | refine VCode.skip ?_))
     (refine Less.mk (l := [0, 1, 2]) hcx ?ss ?hh rfl (by decide) rfl ⟨_, ?_, j + 1, q', bs', by omega, rfl, hst.symm, rfl⟩; (case ss => repeat (first | exact SubS.nil | refine SubS.cons rfl rfl ?_ | refine SubS.cons (ciI (by omega)) rfl ?_ | refine SubS.cons (ciB (by assumption)) rfl ?_)); (case hh => repeat (first | exact SubH.nil | refine SubH.cons rfl rfl rfl ?_)))
     omega
   ·have c1 : ¬ a1 = x := by have := of_decide_eq_false c1; omega
    have hvis : visit x (q', bs') (a1, b1) = (q', bs') := by unfold visit; rw [if_neg (fun h => c1 h.1)]
    rw [hvis] at hst
    (repeat (first | ((with_reducible refine VOps.same ?_); (first | (refine VOps.nil ?_; try dsimp only [VThen, VBlock]) | refine VOps.vP (VPure.pick_f rfl rfl rfl) ?_ | refine VOps.passv rfl (by kernel_rfl) rfl ?_))))
    refine VCode.cond_f rfl rfl ?_
    (repeat (first | ((with_reducible refine VOps.same ?_); (first | (refine VOps.nil ?_; try dsimp only [VThen, VBlock]) | refine VOps.vP (VPure.move rfl rfl) ?_ | refine VOps.vP (VPure.addK rfl rfl rfl (by omega)) ?_)) | refine VCode.region rfl ?_ | refine VCode.skip ?_))
    (refine Less.mk (l := [0, 1, 2]) hcx ?ss ?hh rfl (by decide) rfl ⟨_, ?_, j + 1, q', bs', by omega, rfl, hst.symm, rfl⟩; (case ss => repeat (first | exact SubS.nil | refine SubS.cons rfl rfl ?_ | refine SubS.cons (ciI (by omega)) rfl ?_ | refine SubS.cons (ciB (by assumption)) rfl ?_)); (case hh => repeat (first | exact SubH.nil | refine SubH.cons rfl rfl rfl ?_)))
    omega
  | none =>
   have hge : l.length ≤ j := List.getElem?_eq_none_iff.1 hy
   rw [List.take_of_length_le hge] at hqb
   rw [← hqb] at hr
   (repeat (first | ((with_reducible refine VOps.same ?_); (first | (refine VOps.nil ?_; try dsimp only [VThen, VBlock]) | refine VOps.vP (VPure.lss rfl rfl rfl) ?_)) | refine VCode.seq ?_ | refine VCode.region rfl ?_))
   refine VCode.cond_f rfl (decide_eq_false (by omega)) ?_
   (repeat (first | refine VCode.exit ?_))
   (refine Less.mk (l := [0, 1, 2]) hcx ?ss ?hh rfl (by decide) rfl ⟨m, Nat.lt_succ_self m, q', bs', hr, by omega, by omega, rfl⟩; (case ss => repeat (first | exact SubS.nil | refine SubS.cons rfl rfl ?_ | refine SubS.cons (ciI (by omega)) rfl ?_ | refine SubS.cons (ciB (by assumption)) rfl ?_)); (case hh => repeat (first | exact SubH.nil | refine SubH.cons rfl rfl rfl ?_)))
set_option maxHeartbeats 4000000 in
theorem on_v (g : Gr) (w : List Spot) (hg : Sized g) (hw : w.length ≤ 1000000) : VCalls Try.prog 14 [gV g, sV w] [] 0 (Gives (.sl 1 ((onOf g w).map encRow))) := by
 have ht := hg.terms
 have hn := hg.names
 refine VCalls.enterD (n := 29) Try.func14 rfl rfl (by simp) rfl (fun cx hcx => ?_)
 (repeat (first | ((with_reducible refine VOps.same ?_); (first | (refine VOps.nil ?_; try dsimp only [VThen, VBlock]) | refine VOps.vP (VPure.assign rfl rfl) ?_ | refine VOps.vV (VLoad.boxA rfl rfl rfl (by rfl) (leR (by rfl)) (by decide)) ?_ | refine VOps.box rfl rfl (by kernel_rfl) rfl rfl rfl rfl ?_)) | refine VCode.seq ?_ | refine VCode.region rfl ?_))
 refine VOps.pure rfl Try.func35 rfl (by kernel_rfl) rfl rfl rfl rfl rfl rfl rfl (good_v g hg) ?_
 (repeat (first | ((with_reducible refine VOps.same ?_); (first | (refine VOps.nil ?_; try dsimp only [VThen, VBlock]) | refine VOps.vP (VPure.not rfl rfl) ?_))))
 refine VCode.cond rfl (fun h1 => ?_) (fun h1 => ?_)
 ·(repeat (first | ((with_reducible refine VOps.same ?_); (first | (refine VOps.nil ?_; try dsimp only [VThen, VBlock]) | refine VOps.vP (VPure.assign rfl rfl) ?_)) | refine VCode.seq ?_ | refine VCode.region rfl ?_))
  refine VCode.nilS 4 1 rfl ?_
  refine VCode.retD rfl rfl (.tmp rfl .nil) ?_
  have : onOf g w = [] := by unfold onOf; rw [if_neg (by simpa using h1)]
  rw [this]; rfl
 have hG : GoodG g := by simpa using h1
 have hrl := restS_len g w
 have hrm : ∀ y ∈ restS g w, y ∈ spots g := fun y hy => (mem_restS.1 hy).1
 (repeat (first | ((with_reducible refine VOps.same ?_); (first | refine VOps.vP (VPure.move rfl rfl) ?_ | refine VOps.vV (VLoad.boxA rfl rfl rfl (by rfl) (leR (by rfl)) (by decide)) ?_)) | refine VCode.seq ?_ | refine VCode.region rfl ?_ | refine VCode.skip ?_))
 (refine VOps.callL (ch := []) [] rfl Try.func36 rfl (by kernel_rfl) rfl rfl rfl rfl ?hh (by decide) rfl rfl rfl (rest_o g w hg hw) rfl (by rfl) rfl ?_; (case hh => repeat (first | exact SubH.nil | refine SubH.cons rfl rfl rfl ?_)))
 (repeat (first | ((with_reducible refine VOps.same ?_); (first | (refine VOps.nil ?_; try dsimp only [VThen, VBlock]) | refine VOps.vP (VPure.move rfl rfl) ?_ | refine VOps.vP (VPure.assign rfl rfl) ?_ | refine VOps.vP (VPure.len_map TI.und' rfl rfl) ?_ | refine VOps.vP (VPure.field_ptr rfl rfl rfl) ?_ | refine VOps.vV (VLoad.box1 rfl rfl rfl rfl (by rfl) (by decide)) ?_)) | refine VCode.seq ?_ | refine VCode.region rfl ?_ | refine VCode.block ?_))
 refine VCode.freeze (id := 1) rfl ?_
 refine VCode.nilObj 6 33 1 rfl ?_
 skip
 refine VCode.loop (fun m st => ∃ (k : Nat) (out : List (List Bool)), k ≤ g.names.length ∧ m = g.names.length - k ∧ out = (onOf g w).take k ∧ st = ⟨[(17, .val (.int .i64 (k : Int))), (16, .val (.int .i64 (g.names.length : Int))), (6, .ref 1), (5, sV (restS g w)), (2, .ptr 0 0)], [(0, gO g), (1, .arr 33 1 (out.map encRow))], 2⟩) g.names.length ?_ ?_
 ·(refine Less.mk (l := [0, 2]) hcx ?ss ?hh rfl (by decide) rfl ⟨0, [], by omega, by omega, rfl, rfl⟩; (case ss => repeat (first | exact SubS.nil | refine SubS.cons rfl rfl ?_ | refine SubS.cons (ciI (by omega)) rfl ?_ | refine SubS.cons (ciB (by assumption)) rfl ?_)); (case hh => repeat (first | exact SubH.nil | refine SubH.cons rfl rfl rfl ?_)))
 rintro m st ⟨k, out, hk, rfl, hout, rfl⟩
 by_cases hlt : k < g.names.length
 ·have hrow := onOf_get hG w hlt
  have htl : out.length ≤ 4000 := by rw [hout, List.length_take]; omega
  (repeat (first | ((with_reducible refine VOps.same ?_); (first | (refine VOps.nil ?_; try dsimp only [VThen, VBlock]) | refine VOps.vP (VPure.lss rfl rfl rfl) ?_)) | refine VCode.seq ?_ | refine VCode.region rfl ?_))
  refine VCode.cond_t rfl (decide_eq_true (by omega)) ?_
  (repeat (first | ((with_reducible refine VOps.same ?_); (first | (refine VOps.nil ?_; try dsimp only [VThen, VBlock]) | refine VOps.vP (VPure.move rfl rfl) ?_ | refine VOps.vP (VPure.assign rfl rfl) ?_ | refine VOps.vV (VLoad.boxA rfl rfl rfl (by rfl) (leR (by rfl)) (by decide)) ?_)) | refine VCode.seq ?_ | refine VCode.region rfl ?_ | refine VCode.block ?_ | refine VCode.skip ?_))
  refine VOps.gives rfl Try.func37 rfl (by kernel_rfl) rfl rfl rfl rfl rfl rfl rfl rfl (from_v hg hrm (by omega) hlt (row_bfs g w k)) ?_
  (repeat (first | ((with_reducible refine VOps.same ?_); (first | refine VOps.one rfl rfl (by kernel_rfl) rfl (by rfl) (by decide) (by decide) rfl (by rfl) (by rfl) ?_))))
  refine VOps.append (zs := (out ++ [rowOf g w k]).map encRow) rfl rfl (by kernel_rfl) rfl (by rfl) (by decide) rfl (.arr rfl) rfl (.arr rfl) (by simp only [List.length_append, List.length_cons, List.length_nil, List.length_map]; unfold most; omega) (by simp only [List.length_append, List.length_cons, List.length_nil, List.length_map]; unfold most; omega) rfl ( by rw [List.map_append]; rfl) ?_
  (repeat (first | ((with_reducible refine VOps.same ?_); (first | (refine VOps.nil ?_; try dsimp only [VThen, VBlock]) | refine VOps.vP (VPure.move rfl rfl) ?_ | refine VOps.vP (VPure.assign rfl rfl) ?_ | refine VOps.vP (VPure.addK rfl rfl rfl (by omega)) ?_)) | refine VCode.region rfl ?_))
  (refine Less.mk (l := [0, 3]) hcx ?ss ?hh rfl (by decide) rfl ⟨_, ?_, k + 1, out ++ [rowOf g w k], by omega, rfl, by rw [List.take_add_one, hrow, hout]; rfl, rfl⟩; (case ss => repeat (first | exact SubS.nil | refine SubS.cons rfl rfl ?_ | refine SubS.cons (ciI (by omega)) rfl ?_ | refine SubS.cons (ciB (by assumption)) rfl ?_)); (case hh => repeat (first | exact SubH.nil | refine SubH.cons rfl rfl rfl ?_)))
  omega
 ·(repeat (first | ((with_reducible refine VOps.same ?_); (first | (refine VOps.nil ?_; try dsimp only [VThen, VBlock]) | refine VOps.vP (VPure.lss rfl rfl rfl) ?_)) | refine VCode.seq ?_ | refine VCode.region rfl ?_))
  refine VCode.cond_f rfl (decide_eq_false (by omega)) ?_
  (repeat (first | ((with_reducible refine VOps.same ?_); (first | (refine VOps.nil ?_; try dsimp only [VThen, VBlock]) | refine VOps.vP (VPure.move rfl rfl) ?_ | refine VOps.vP (VPure.assign rfl rfl) ?_)) | refine VCode.seq ?_ | refine VCode.region rfl ?_ | refine VCode.exit ?_))
  refine VCode.freeze (id := 1) rfl ?_
  refine VCode.retD rfl rfl (.tmp rfl .nil) ?_
  rw [hout, List.take_of_length_le (by rw [onOf_len hG]; omega)]; rfl
end Go.Proofs.Ytfjfbapiheehaaa.V
end
section
set_option linter.unusedVariables false
set_option linter.unusedSimpArgs false
namespace Go.Proofs.Ytfjfbapiheehaaa.V
open Go Go.RowKit Go.Proofs.Ytfjfbapiheehaaa.DG
section
variable {P : Program} {n : Nat} {cx : Cx} {st : St} {o : Oper}
theorem VPure.min {x y : Operand} {a b : Int} {ts : Array TypeId} (ho : o.op = .call { callee := .builtin .min, args := #[x, y], argTypes := ts }) (hx : ev st.s x = some (.val (.int .i64 a))) (hy : ev st.s y = some (.val (.int .i64 b))) : VPure P n cx o st (.val (.int .i64 (if b < a then b else a))) := fun g a' w r => ⟨_, .val _ rfl, fun w' => by
 have e1 := (ev_rep r hx).val_inv
 have e2 := (ev_rep r hy).val_inv
 unfold execOp; rw [ho]
 simp [e1, e2, resolve, invoke, builtin, Builtin.min_, Builtin.min2]⟩
end
def Asc (p : Nat → Bool) (a k f : Nat) : Prop := (f = a ∧ ∀ b, b < k → p b = false) ∨ (f < k ∧ p f = true ∧ ∀ b, b < f → p b = false)
theorem Asc.zero (p : Nat → Bool) (a : Nat) : Asc p a 0 a := .inl ⟨rfl, fun b h => by omega⟩
theorem Asc.yes {p : Nat → Bool} {a k f : Nat} (h : Asc p a k f) (hk : k < a) (hp : p k = true) : Asc p a (k + 1) (if k < f then k else f) := by
 rcases h with ⟨rfl, h⟩ | ⟨h1, h2, h3⟩
 ·rw [if_pos hk]; exact .inr ⟨by omega, hp, h⟩
 ·rw [if_neg (by omega)]; exact .inr ⟨by omega, h2, h3⟩
theorem Asc.no {p : Nat → Bool} {a k f : Nat} (h : Asc p a k f) (hp : p k = false) : Asc p a (k + 1) f := by
 rcases h with ⟨rfl, h⟩ | ⟨h1, h2, h3⟩
 ·refine .inl ⟨rfl, fun b hb => ?_⟩
  by_cases e : b = k
  ·subst e; exact hp
  ·exact h b (by omega)
 ·exact .inr ⟨by omega, h2, h3⟩
theorem Asc.done {p : Nat → Bool} {a f : Nat} (h : Asc p a a f) : IsFirst p a f := by
 rcases h with ⟨rfl, h⟩ | ⟨h1, h2, h3⟩
 ·exact ⟨Nat.le_refl _, fun h => by omega, h⟩
 ·exact ⟨by omega, fun _ => h2, h3⟩
theorem onOf_ne {g : Gr} {w : List Spot} {k : Nat} (h : k < (onOf g w).length) : GoodG g := by
 unfold onOf at h
 split at h
 ·assumption
 ·simp at h
theorem cell_get {g : Gr} (hG : GoodG g) (w : List Spot) {a b : Nat} (ha : a < g.names.length) (hb : b < g.names.length) : (rowOf g w a)[b]? = some (cellB (onOf g w) a b) := by
 have e : (onOf g w).getD a [] = rowOf g w a := by rw [List.getD_eq_getElem?_getD, onOf_get hG w ha]; rfl
 unfold cellB
 rw [e]
 have : b < (rowOf g w a).length := by rw [(rowOf_is g w a).1]; exact hb
 simp [List.getD_eq_getElem?_getD, List.getElem?_eq_getElem this]
set_option maxHeartbeats 4000000 in
theorem comps_v (g : Gr) (w : List Spot) (hg : Sized g) (hw : w.length ≤ 1000000) : VCalls Try.prog 21 [gV g, sV w] [] 0 (Gives (.sl 1 ((comps g w).map encN))) := by
 have hn := hg.names
 have hN : (onOf g w).length ≤ 4000 := by
  by_cases hG : GoodG g
  ·rw [onOf_len hG]; exact hn
  ·unfold onOf; rw [if_neg hG]; simp
 have hC : (comps g w).length = (onOf g w).length := by unfold comps; simp
 refine VCalls.enterD (n := 49) Try.func21 rfl rfl (by simp) rfl (fun cx hcx => ?_)
 (repeat (first | ((with_reducible refine VOps.same ?_); (first | (refine VOps.nil ?_; try dsimp only [VThen, VBlock]) | refine VOps.vP (VPure.move rfl rfl) ?_ | refine VOps.vP (VPure.assign rfl rfl) ?_ | refine VOps.vV (VLoad.boxA rfl rfl rfl (by rfl) (leR (by rfl)) (by decide)) ?_ | refine VOps.box rfl rfl (by kernel_rfl) rfl rfl rfl rfl ?_)) | refine VCode.seq ?_ | refine VCode.region rfl ?_))
 refine VOps.gives rfl Try.func14 rfl (by kernel_rfl) rfl rfl rfl rfl rfl rfl rfl rfl (on_v g w hg hw) ?_
 (repeat (first | ((with_reducible refine VOps.same ?_); (first | (refine VOps.nil ?_; try dsimp only [VThen, VBlock]) | refine VOps.vP (VPure.move rfl rfl) ?_ | refine VOps.vP (VPure.assign rfl rfl) ?_ | refine VOps.vP (VPure.len_map TI.und' rfl rfl) ?_)) | refine VCode.seq ?_ | refine VCode.region rfl ?_ | refine VCode.block ?_))
 refine VCode.nilObj 6 3 1 rfl ?_
 skip
 refine VCode.loop (fun m st => ∃ (k : Nat) (out : List Nat), k ≤ (onOf g w).length ∧ m = (onOf g w).length - k ∧ out = (comps g w).take k ∧ st = ⟨[(15, .val (.int .i64 (k : Int))), (14, .val (.int .i64 ((onOf g w).length : Int))), (6, .ref 0), (5, .sl 1 ((onOf g w).map encRow))], [(0, .arr 3 1 (out.map encN))], 1⟩) (onOf g w).length ?_ ?_
 ·(refine Less.mk (l := [1]) hcx ?ss ?hh rfl (by decide) rfl ⟨0, [], by omega, by omega, rfl, rfl⟩; (case ss => repeat (first | exact SubS.nil | refine SubS.cons rfl rfl ?_ | refine SubS.cons (ciI (by omega)) rfl ?_ | refine SubS.cons (ciB (by assumption)) rfl ?_)); (case hh => repeat (first | exact SubH.nil | refine SubH.cons rfl rfl rfl ?_)))
 rintro m st ⟨k, out, hk, rfl, hout, rfl⟩
 by_cases hlt : k < (onOf g w).length
 ·have hG := onOf_ne hlt
  have hkn : k < g.names.length := by rw [onOf_len hG] at hlt; exact hlt
  have hrow := onOf_get hG w hkn
  have htl : out.length ≤ 4000 := by rw [hout, List.length_take]; omega
  (repeat (first | ((with_reducible refine VOps.same ?_); (first | (refine VOps.nil ?_; try dsimp only [VThen, VBlock]) | refine VOps.vP (VPure.lss rfl rfl rfl) ?_)) | refine VCode.seq ?_ | refine VCode.region rfl ?_))
  refine VCode.cond_t rfl (decide_eq_true (by omega)) ?_
  (repeat (first | ((with_reducible refine VOps.same ?_); (first | (refine VOps.nil ?_; try dsimp only [VThen, VBlock]) | refine VOps.vP (VPure.move rfl rfl) ?_ | refine VOps.vP (VPure.assign rfl rfl) ?_)) | refine VCode.seq ?_ | refine VCode.region rfl ?_ | refine VCode.block ?_ | refine VCode.skip ?_))
  refine VCode.loop (fun m st => ∃ b f : Nat, b ≤ k ∧ m = k - b ∧ Asc (bothB (onOf g w) k) k b f ∧ st = ⟨[(20, .val (.int .i64 (b : Int))), (19, .val (.int .i64 (k : Int))), (7, .val (.int .i64 (k : Int))), (8, .val (.int .i64 (f : Int))), (15, .val (.int .i64 (k : Int))), (14, .val (.int .i64 ((onOf g w).length : Int))), (6, .ref 0), (5, .sl 1 ((onOf g w).map encRow))], [(0, .arr 3 1 (out.map encN))], 1⟩) k ?_ ?_
  ·(refine Less.mk (l := [0]) hcx ?ss ?hh rfl (by decide) rfl ⟨0, k, by omega, by omega, Asc.zero _ _, rfl⟩; (case ss => repeat (first | exact SubS.nil | refine SubS.cons rfl rfl ?_ | refine SubS.cons (ciI (by omega)) rfl ?_ | refine SubS.cons (ciB (by assumption)) rfl ?_)); (case hh => repeat (first | exact SubH.nil | refine SubH.cons rfl rfl rfl ?_)))
  rintro m st ⟨b, f, hb, rfl, hasc, rfl⟩
  by_cases hltb : b < k
  ·have hbn : b < g.names.length := by omega
   have hrowb := onOf_get hG w hbn
   have hc1 := cell_get hG w hkn hbn
   have hc2 := cell_get hG w hbn hkn
   (repeat (first | ((with_reducible refine VOps.same ?_); (first | (refine VOps.nil ?_; try dsimp only [VThen, VBlock]) | refine VOps.vP (VPure.lss rfl rfl rfl) ?_)) | refine VCode.seq ?_ | refine VCode.region rfl ?_))
   refine VCode.cond_t rfl (decide_eq_true (by omega)) ?_
   (repeat (first | ((with_reducible refine VOps.same ?_); (first | (refine VOps.nil ?_; try dsimp only [VThen, VBlock]) | refine VOps.vP (VPure.move rfl rfl) ?_ | refine VOps.vP (VPure.assign rfl rfl) ?_ | refine VOps.vP (VPure.idx_map rfl rfl rfl (by assumption)) ?_ | refine VOps.vV (VLoad.el1 rfl rfl rfl (by rfl)) ?_)) | refine VCode.seq ?_ | refine VCode.region rfl ?_ | refine VCode.block ?_ | refine VCode.skip ?_))
   refine VOps.bool (d := 30) rfl (fun h1 => ?_) (fun h1 => ?_)
   ·(repeat (first | ((with_reducible refine VOps.same ?_); (first | (refine VOps.nil ?_; try dsimp only [VThen, VBlock]) | refine VOps.vP (VPure.move rfl rfl) ?_ | refine VOps.vP (VPure.idx_map rfl rfl rfl (by assumption)) ?_ | refine VOps.vV (VLoad.el1 rfl rfl rfl (by rfl)) ?_ | refine VOps.vP (VPure.pick_t rfl rfl rfl) ?_))))
    refine VCode.cond rfl (fun h2 => ?_) (fun h2 => ?_)
    ·have hp : bothB (onOf g w) k b = true := by unfold bothB; rw [h1, h2]; rfl
     have hif : (if (b : Int) < (f : Int) then (b : Int) else (f : Int)) = ((if b < f then b else f : Nat) : Int) := by split <;> split <;> omega
     (repeat (first | ((with_reducible refine VOps.same ?_); (first | refine VOps.vP (VPure.move rfl rfl) ?_)) | refine VCode.region rfl ?_))
     refine VOps.vP (VPure.min rfl rfl rfl) ?_
     refine VOps.says (d := 41) (v := .val (.int .i64 ((if b < f then b else f : Nat) : Int))) rfl (by rw [hif]) ?_
     (repeat (first | ((with_reducible refine VOps.same ?_); (first | (refine VOps.nil ?_; try dsimp only [VThen, VBlock]) | refine VOps.vP (VPure.move rfl rfl) ?_ | refine VOps.vP (VPure.assign rfl rfl) ?_ | refine VOps.vP (VPure.addK rfl rfl rfl (by omega)) ?_)) | refine VCode.region rfl ?_))
     (refine Less.mk (l := [0]) hcx ?ss ?hh rfl (by decide) rfl ⟨_, ?_, b + 1, (if b < f then b else f), by omega, rfl, hasc.yes hltb hp, rfl⟩; (case ss => repeat (first | exact SubS.nil | refine SubS.cons rfl rfl ?_ | refine SubS.cons (ciI (by omega)) rfl ?_ | refine SubS.cons (ciB (by assumption)) rfl ?_)); (case hh => repeat (first | exact SubH.nil | refine SubH.cons rfl rfl rfl ?_)))
     omega
    ·have hp : bothB (onOf g w) k b = false := by unfold bothB; rw [h2]; simp
     (repeat (first | ((with_reducible refine VOps.same ?_); (first | (refine VOps.nil ?_; try dsimp only [VThen, VBlock]) | refine VOps.vP (VPure.move rfl rfl) ?_ | refine VOps.vP (VPure.addK rfl rfl rfl (by omega)) ?_)) | refine VCode.region rfl ?_ | refine VCode.skip ?_))
     (refine Less.mk (l := [0]) hcx ?ss ?hh rfl (by decide) rfl ⟨_, ?_, b + 1, f, by omega, rfl, hasc.no hp, rfl⟩; (case ss => repeat (first | exact SubS.nil | refine SubS.cons rfl rfl ?_ | refine SubS.cons (ciI (by omega)) rfl ?_ | refine SubS.cons (ciB (by assumption)) rfl ?_)); (case hh => repeat (first | exact SubH.nil | refine SubH.cons rfl rfl rfl ?_)))
     omega
   ·have hp : bothB (onOf g w) k b = false := by unfold bothB; rw [h1]; rfl
    (repeat (first | ((with_reducible refine VOps.same ?_); (first | (refine VOps.nil ?_; try dsimp only [VThen, VBlock]) | refine VOps.vP (VPure.pick_f rfl rfl rfl) ?_ | refine VOps.passv rfl (by kernel_rfl) rfl ?_))))
    refine VCode.cond_f rfl rfl ?_
    (repeat (first | ((with_reducible refine VOps.same ?_); (first | (refine VOps.nil ?_; try dsimp only [VThen, VBlock]) | refine VOps.vP (VPure.move rfl rfl) ?_ | refine VOps.vP (VPure.addK rfl rfl rfl (by omega)) ?_)) | refine VCode.region rfl ?_ | refine VCode.skip ?_))
    (refine Less.mk (l := [0]) hcx ?ss ?hh rfl (by decide) rfl ⟨_, ?_, b + 1, f, by omega, rfl, hasc.no hp, rfl⟩; (case ss => repeat (first | exact SubS.nil | refine SubS.cons rfl rfl ?_ | refine SubS.cons (ciI (by omega)) rfl ?_ | refine SubS.cons (ciB (by assumption)) rfl ?_)); (case hh => repeat (first | exact SubH.nil | refine SubH.cons rfl rfl rfl ?_)))
    omega
  ·obtain rfl : b = k := by omega
   have hf := hasc.done.unique (firstOf_is (bothB (onOf g w) b) b)
   have hcg : (comps g w)[b]? = some f := by rw [comps_get hG w hkn, hf]; rfl
   (repeat (first | ((with_reducible refine VOps.same ?_); (first | (refine VOps.nil ?_; try dsimp only [VThen, VBlock]) | refine VOps.vP (VPure.lss rfl rfl rfl) ?_)) | refine VCode.seq ?_ | refine VCode.region rfl ?_))
   refine VCode.cond_f rfl (decide_eq_false (by omega)) ?_
   (repeat (first | ((with_reducible refine VOps.same ?_); (first | refine VOps.vP (VPure.move rfl rfl) ?_ | refine VOps.one rfl rfl (by kernel_rfl) rfl (by rfl) (by decide) (by decide) rfl (by rfl) (by rfl) ?_)) | refine VCode.region rfl ?_ | refine VCode.exit ?_))
   refine VOps.append (zs := (out ++ [f]).map encN) rfl rfl (by kernel_rfl) rfl (by rfl) (by decide) rfl (.arr rfl) rfl (.arr rfl) (by simp only [List.length_append, List.length_cons, List.length_nil, List.length_map]; unfold most; omega) (by simp only [List.length_append, List.length_cons, List.length_nil, List.length_map]; unfold most; omega) rfl ( by rw [List.map_append]; rfl) ?_
   (repeat (first | ((with_reducible refine VOps.same ?_); (first | (refine VOps.nil ?_; try dsimp only [VThen, VBlock]) | refine VOps.vP (VPure.move rfl rfl) ?_ | refine VOps.vP (VPure.assign rfl rfl) ?_ | refine VOps.vP (VPure.addK rfl rfl rfl (by omega)) ?_)) | refine VCode.region rfl ?_))
   (refine Less.mk (l := [2]) hcx ?ss ?hh rfl (by decide) rfl ⟨_, ?_, b + 1, out ++ [f], by omega, rfl, by rw [List.take_add_one, hcg, hout]; rfl, rfl⟩; (case ss => repeat (first | exact SubS.nil | refine SubS.cons rfl rfl ?_ | refine SubS.cons (ciI (by omega)) rfl ?_ | refine SubS.cons (ciB (by assumption)) rfl ?_)); (case hh => repeat (first | exact SubH.nil | refine SubH.cons rfl rfl rfl ?_)))
   omega
 ·(repeat (first | ((with_reducible refine VOps.same ?_); (first | (refine VOps.nil ?_; try dsimp only [VThen, VBlock]) | refine VOps.vP (VPure.lss rfl rfl rfl) ?_)) | refine VCode.seq ?_ | refine VCode.region rfl ?_))
  refine VCode.cond_f rfl (decide_eq_false (by omega)) ?_
  (repeat (first | ((with_reducible refine VOps.same ?_); (first | (refine VOps.nil ?_; try dsimp only [VThen, VBlock]) | refine VOps.vP (VPure.move rfl rfl) ?_ | refine VOps.vP (VPure.assign rfl rfl) ?_)) | refine VCode.seq ?_ | refine VCode.region rfl ?_ | refine VCode.exit ?_))
  refine VCode.freeze (id := 0) rfl ?_
  refine VCode.retD rfl rfl (.tmp rfl .nil) ?_
  rw [hout, List.take_of_length_le (by omega)]; rfl
end Go.Proofs.Ytfjfbapiheehaaa.V
end
section
set_option linter.unusedVariables false
set_option linter.unusedSimpArgs false
namespace Go.Proofs.Ytfjfbapiheehaaa.V
open Go Go.RowKit
abbrev cO (c : List Nat) : O := .cells 37 [.sl 1 (c.map encN)]
set_option maxHeartbeats 2000000 in
theorem inner1_v {g : Gr} {w : List Spot} (hg : Sized g) (x : Spot) (hx : x ∈ spots g) : VCalls Try.prog 40 [pV x, .ptr 0 0, .ptr 1 0] [(0, gO g), (1, cO (comps g w))] 2 (Leaves (.val (.bool (!inS g w x))) [(0, gO g), (1, cO (comps g w))] 2) := by
 obtain ⟨hG, i1, j1, r1, s1, a1, b1, hat⟩ := spot_at hx
 have hca := comps_get hG w hat.ha
 have hcb := comps_get hG w hat.hb
 have hin : (!decide ((compOf g w a1 : Int) = (compOf g w b1 : Int))) = (!inS g w x) := by
  unfold inS
  rw [hat.he]
  congr 1
  rw [decide_eq_decide]; show _ ↔ compOf g w a1 = compOf g w b1; omega
 refine VCalls.enterL (n := 22) Try.func40 rfl rfl (by simp) (fun cx hcx => ?_)
 (repeat (first | ((with_reducible refine VOps.same ?_); (first | (refine VOps.nil ?_; try dsimp only [VThen, VBlock]) | refine VOps.vP (VPure.assign rfl rfl) ?_ | refine VOps.vV (VLoad.boxA rfl rfl rfl (by rfl) (leR (by rfl)) (by decide)) ?_ | refine VOps.box rfl rfl (by kernel_rfl) rfl rfl rfl rfl ?_)) | refine VCode.seq ?_ | refine VCode.region rfl ?_))
 refine VOps.pure rfl Try.func41 rfl (by kernel_rfl) rfl rfl rfl rfl rfl rfl rfl (ends_v hg hat) ?_
 (repeat (first | ((with_reducible refine VOps.same ?_); (first | (refine VOps.nil ?_; try dsimp only [VThen, VBlock]) | refine VOps.vP (VPure.move rfl rfl) ?_ | refine VOps.vP (VPure.assign rfl rfl) ?_ | refine VOps.vP (VPure.extract rfl rfl rfl) ?_ | refine VOps.vP (VPure.idx_map rfl rfl rfl (by assumption)) ?_ | refine VOps.vV (VLoad.el1 rfl rfl rfl (by rfl)) ?_ | refine VOps.vV (VLoad.box1 rfl rfl rfl rfl (by rfl) (by decide)) ?_ | refine VOps.vP (VPure.nei rfl rfl rfl) ?_)) | refine VCode.seq ?_ | refine VCode.draw [] rfl ?_))
 refine VCode.ret ?_
 (show Less cx _ _; refine Less.mkx (l := [0, 1]) (st' := ⟨[(4, .val (.bool (!inS g w x)))], [(0, gO g), (1, cO (comps g w))], 2⟩) 2 hcx (Nat.le_of_ble_eq_true rfl) (by decide) ?ss ?hh rfl (by decide) rfl ⟨_, (.tmp rfl .nil), rfl, rfl, rfl⟩; (case ss => repeat (first | exact SubS.nil | refine SubS.cons rfl rfl ?_ | refine SubS.cons (ciI (by omega)) rfl ?_ | refine SubS.cons (ciB (by assumption)) rfl ?_)); (case hh => repeat (first | exact SubH.nil | refine SubH.cons rfl rfl rfl ?_)))
set_option maxHeartbeats 2000000 in
theorem idxI_v {g : Gr} {w : List Spot} (hg : Sized g) (l : List Spot) (hl : l.length ≤ 1000000) (hin : ∀ x ∈ l, x ∈ spots g) : VCalls Try.prog 66 [.ref 2, .fn 40 [.ptr 0 0, .ptr 1 0]] [(0, gO g), (1, cO (comps g w)), (2, .arr 44 2 (l.map encP))] 3 (Leaves (.val (.int .i64 (firstAt (fun x => !inS g w x) l))) [(0, gO g), (1, cO (comps g w)), (2, .arr 44 2 (l.map encP))] 3) := by
 refine VCalls.enterL (n := 19) Try.func66 rfl rfl (by simp) (fun cx hcx => ?_)
 (repeat (first | ((with_reducible refine VOps.same ?_); (first | (refine VOps.nil ?_; try dsimp only [VThen, VBlock]) | refine VOps.vP (VPure.move rfl rfl) ?_ | refine VOps.vP (VPure.assign rfl rfl) ?_ | refine VOps.vP (VPure.len_arr TI.und' rfl rfl rfl) ?_)) | refine VCode.seq ?_ | refine VCode.region rfl ?_ | refine VCode.block ?_))
 refine VCode.says (d := 7) (v := .val (.int .i64 (l.length : Int))) rfl (by rw [List.length_map]) ?_
 refine VCode.loop (fun m st => ∃ k : Nat, k ≤ l.length ∧ m = l.length - k ∧ (∀ y ∈ l.take k, (fun x => !inS g w x) y = false) ∧ st = ⟨[(8, .val (.int .i64 (k : Int))), (7, .val (.int .i64 (l.length : Int))), (0, .ref 2), (1, .fn 40 [.ptr 0 0, .ptr 1 0])], [(0, gO g), (1, cO (comps g w)), (2, .arr 44 2 (l.map encP))], 3⟩) l.length ?_ ?_
 ·(refine Less.mkx (l := [0, 1, 2]) 3 hcx (by exact Nat.le_of_ble_eq_true rfl) (by decide) ?ss ?hh rfl (by decide) rfl ⟨0, by omega, by omega, by simp, rfl⟩; (case ss => repeat (first | exact SubS.nil | refine SubS.cons rfl rfl ?_ | refine SubS.cons (ciI (by omega)) rfl ?_ | refine SubS.cons (ciB (by assumption)) rfl ?_)); (case hh => repeat (first | exact SubH.nil | refine SubH.cons rfl rfl rfl ?_)))
 rintro m st ⟨k, hk, rfl, hb, rfl⟩
 cases ht : l[k]? with
 | some e =>
  have hlt : k < l.length := (List.getElem?_eq_some_iff.1 ht).1
  (repeat (first | ((with_reducible refine VOps.same ?_); (first | (refine VOps.nil ?_; try dsimp only [VThen, VBlock]) | refine VOps.vP (VPure.lss rfl rfl rfl) ?_)) | refine VCode.seq ?_ | refine VCode.region rfl ?_))
  refine VCode.cond_t rfl (decide_eq_true (by omega)) ?_
  (repeat (first | ((with_reducible refine VOps.same ?_); (first | (refine VOps.nil ?_; try dsimp only [VThen, VBlock]) | refine VOps.vP (VPure.move rfl rfl) ?_ | refine VOps.vP (VPure.assign rfl rfl) ?_ | refine VOps.vP (VPure.idx_arrm rfl rfl rfl rfl (by assumption)) ?_ | refine VOps.vV (VLoad.arrAm rfl rfl rfl (by rfl) (by assumption) rfl (leR (by rfl)) (by decide)) ?_)) | refine VCode.seq ?_ | refine VCode.region rfl ?_ | refine VCode.block ?_ | refine VCode.skip ?_))
  (refine VOps.callL (ch := [(0, gO g), (1, cO (comps g w))]) [0, 1] rfl Try.func40 rfl (by kernel_rfl) rfl rfl rfl rfl ?hh (by decide) rfl rfl rfl (inner1_v hg e (hin e (List.mem_of_getElem? ht))) rfl (by rfl) rfl ?_; (case hh => repeat (first | exact SubH.nil | refine SubH.cons rfl rfl rfl ?_)))
  (repeat (first | ((with_reducible refine VOps.same ?_); (first | (refine VOps.nil ?_; try dsimp only [VThen, VBlock])))))
  refine VCode.cond rfl (fun hp => ?_) (fun hp => ?_)
  ·(repeat (first | ((with_reducible refine VOps.same ?_); (first | (refine VOps.nil ?_; try dsimp only [VThen, VBlock]) | refine VOps.vP (VPure.move rfl rfl) ?_ | refine VOps.vP (VPure.assign rfl rfl) ?_)) | refine VCode.seq ?_ | refine VCode.region rfl ?_))
   refine VCode.ret ?_
   have hr : (k : Int) = firstAt (fun x => !inS g w x) l := (firstAt_some ht hp hb).symm
   (show Less cx _ _; refine Less.mkx (l := [0, 1, 2]) (st' := ⟨[(4, .val (.int .i64 (firstAt (fun x => !inS g w x) l)))], [(0, gO g), (1, cO (comps g w)), (2, .arr 44 2 (l.map encP))], 3⟩) 3 hcx (Nat.le_of_ble_eq_true rfl) (by decide) ?ss ?hh rfl (by decide) rfl ⟨_, (.tmp rfl .nil), rfl, rfl, rfl⟩; (case ss => repeat (first | exact SubS.nil | refine SubS.cons rfl rfl ?_ | refine SubS.cons (ciI (by omega)) rfl ?_ | refine SubS.cons (ciB (by assumption)) rfl ?_)); (case hh => repeat (first | exact SubH.nil | refine SubH.cons rfl rfl rfl ?_)))
  ·(repeat (first | ((with_reducible refine VOps.same ?_); (first | (refine VOps.nil ?_; try dsimp only [VThen, VBlock]) | refine VOps.vP (VPure.move rfl rfl) ?_ | refine VOps.vP (VPure.addK rfl rfl rfl (by omega)) ?_)) | refine VCode.region rfl ?_ | refine VCode.skip ?_))
   (refine Less.mkx (l := [0, 1, 2]) 3 hcx (by exact Nat.le_of_ble_eq_true rfl) (by decide) ?ss ?hh rfl (by decide) rfl ⟨_, ?_, k + 1, by omega, rfl, ?_, rfl⟩; (case ss => repeat (first | exact SubS.nil | refine SubS.cons rfl rfl ?_ | refine SubS.cons (ciI (by omega)) rfl ?_ | refine SubS.cons (ciB (by assumption)) rfl ?_)); (case hh => repeat (first | exact SubH.nil | refine SubH.cons rfl rfl rfl ?_)))
   ·omega
   ·exact take_no ht hb hp
 | none =>
  have hge : l.length ≤ k := List.getElem?_eq_none_iff.1 ht
  rw [List.take_of_length_le hge] at hb
  (repeat (first | ((with_reducible refine VOps.same ?_); (first | (refine VOps.nil ?_; try dsimp only [VThen, VBlock]) | refine VOps.vP (VPure.lss rfl rfl rfl) ?_)) | refine VCode.seq ?_ | refine VCode.region rfl ?_))
  refine VCode.cond_f rfl (decide_eq_false (by omega)) ?_
  (repeat (first | ((with_reducible refine VOps.same ?_); (first | (refine VOps.nil ?_; try dsimp only [VThen, VBlock]) | refine VOps.vP (VPure.assign rfl rfl) ?_)) | refine VCode.seq ?_ | refine VCode.region rfl ?_ | refine VCode.exit ?_))
  refine VCode.ret ?_
  have hr : -1 = firstAt (fun x => !inS g w x) l := (firstAt_none hb).symm
  (show Less cx _ _; refine Less.mkx (l := [0, 1, 2]) (st' := ⟨[(4, .val (.int .i64 (firstAt (fun x => !inS g w x) l)))], [(0, gO g), (1, cO (comps g w)), (2, .arr 44 2 (l.map encP))], 3⟩) 3 hcx (Nat.le_of_ble_eq_true rfl) (by decide) ?ss ?hh rfl (by decide) rfl ⟨_, (.tmp rfl .nil), rfl, rfl, rfl⟩; (case ss => repeat (first | exact SubS.nil | refine SubS.cons rfl rfl ?_ | refine SubS.cons (ciI (by omega)) rfl ?_ | refine SubS.cons (ciB (by assumption)) rfl ?_)); (case hh => repeat (first | exact SubH.nil | refine SubH.cons rfl rfl rfl ?_)))
set_option maxHeartbeats 4000000 in
theorem delI_v {g : Gr} {w : List Spot} (hg : Sized g) (l : List Spot) (hl : l.length ≤ 1000000) (hin : ∀ x ∈ l, x ∈ spots g) : VCalls Try.prog 39 [.ref 2, .fn 40 [.ptr 0 0, .ptr 1 0]] [(0, gO g), (1, cO (comps g w)), (2, .arr 44 2 (l.map encP))] 3 (Leaves (.ref 3) [(0, gO g), (1, cO (comps g w)), (3, .arr 44 2 ((l.filter fun x => !(fun x => !inS g w x) x).map encP))] 4) := by
 have hix := idxI_v (w := w) hg l hl hin
 refine VCalls.enterL (n := 42) Try.func39 rfl rfl (by simp) (fun cx hcx => ?_)
 (repeat (first | ((with_reducible refine VOps.same ?_); (first | (refine VOps.nil ?_; try dsimp only [VThen, VBlock]) | refine VOps.vP (VPure.move rfl rfl) ?_ | refine VOps.vP (VPure.assign rfl rfl) ?_)) | refine VCode.seq ?_ | refine VCode.region rfl ?_))
 rcases firstAt_cases (fun x => !inS g w x) l with ⟨he, hno⟩ | ⟨k, y, he, hk, hy, hno⟩
 ·rw [he] at hix
  (refine VOps.callL (ch := [(0, gO g), (1, cO (comps g w)), (2, .arr 44 2 (l.map encP))]) [0, 1, 2] rfl Try.func66 rfl (by kernel_rfl) rfl rfl rfl rfl ?hh (by decide) rfl rfl rfl (hix) rfl (by rfl) rfl ?_; (case hh => repeat (first | exact SubH.nil | refine SubH.cons rfl rfl rfl ?_)))
  (repeat (first | ((with_reducible refine VOps.same ?_); (first | (refine VOps.nil ?_; try dsimp only [VThen, VBlock]) | refine VOps.vP (VPure.move rfl rfl) ?_ | refine VOps.vP (VPure.assign rfl rfl) ?_ | refine VOps.vP (VPure.eqi rfl rfl rfl) ?_)) | refine VCode.seq ?_ | refine VCode.region rfl ?_))
  refine VCode.cond_t rfl rfl ?_
  (repeat (first | ((with_reducible refine VOps.same ?_); (first | (refine VOps.nil ?_; try dsimp only [VThen, VBlock]) | refine VOps.vP (VPure.move rfl rfl) ?_ | refine VOps.vP (VPure.assign rfl rfl) ?_)) | refine VCode.seq ?_ | refine VCode.region rfl ?_))
  refine VCode.againA (id := 2) rfl ?_
  refine VCode.ret ?_
  have hf : (l.filter fun x => !(fun x => !inS g w x) x) = l := List.filter_eq_self.2 (fun x hx => by simpa using hno x hx)
  rw [hf]
  (show Less cx _ _; refine Less.mkx (l := [0, 1, 2, 3]) (st' := ⟨[(4, .ref 3)], [(0, gO g), (1, cO (comps g w)), (3, .arr 44 2 (l.map encP))], 4⟩) 3 hcx (Nat.le_of_ble_eq_true rfl) (by decide) ?ss ?hh rfl (by decide) rfl ⟨_, (.tmp rfl .nil), rfl, rfl, rfl⟩; (case ss => repeat (first | exact SubS.nil | refine SubS.cons rfl rfl ?_ | refine SubS.cons (ciI (by omega)) rfl ?_ | refine SubS.cons (ciB (by assumption)) rfl ?_)); (case hh => repeat (first | exact SubH.nil | refine SubH.cons rfl rfl rfl ?_)))
 ·rw [he] at hix
  have hklt : k < l.length := (List.getElem?_eq_some_iff.1 hk).1
  (refine VOps.callL (ch := [(0, gO g), (1, cO (comps g w)), (2, .arr 44 2 (l.map encP))]) [0, 1, 2] rfl Try.func66 rfl (by kernel_rfl) rfl rfl rfl rfl ?hh (by decide) rfl rfl rfl (hix) rfl (by rfl) rfl ?_; (case hh => repeat (first | exact SubH.nil | refine SubH.cons rfl rfl rfl ?_)))
  (repeat (first | ((with_reducible refine VOps.same ?_); (first | (refine VOps.nil ?_; try dsimp only [VThen, VBlock]) | refine VOps.vP (VPure.move rfl rfl) ?_ | refine VOps.vP (VPure.assign rfl rfl) ?_ | refine VOps.vP (VPure.eqi rfl rfl rfl) ?_)) | refine VCode.seq ?_ | refine VCode.region rfl ?_))
  refine VCode.cond_f rfl (decide_eq_false (by omega)) ?_
  (repeat (first | ((with_reducible refine VOps.same ?_); (first | (refine VOps.nil ?_; try dsimp only [VThen, VBlock]) | refine VOps.vP (VPure.move rfl rfl) ?_ | refine VOps.vP (VPure.assign rfl rfl) ?_ | refine VOps.vP (VPure.addK rfl rfl rfl (by omega)) ?_)) | refine VCode.seq ?_ | refine VCode.region rfl ?_ | refine VCode.block ?_ | refine VCode.skip ?_))
  refine VCode.loop (fun m st => ∃ (i j : Nat) (ys : List Spot), j ≤ l.length ∧ m = l.length - j ∧ Kept (fun x => !inS g w x) l ys i j ∧ st = ⟨[(5, .val (.int .i64 (i : Int))), (6, .val (.int .i64 (j : Int))), (0, .ref 2), (1, .fn 40 [.ptr 0 0, .ptr 1 0])], [(0, gO g), (1, cO (comps g w)), (2, .arr 44 2 (ys.map encP))], 3⟩) (l.length - (k + 1)) ?_ ?_
  ·(refine Less.mkx (l := [0, 1, 2]) 3 hcx (by exact Nat.le_of_ble_eq_true rfl) (by decide) ?ss ?hh rfl (by decide) rfl ⟨k, k + 1, l, by omega, by omega, Kept.start hk hy hno, rfl⟩; (case ss => repeat (first | exact SubS.nil | refine SubS.cons rfl rfl ?_ | refine SubS.cons (ciI (by omega)) rfl ?_ | refine SubS.cons (ciB (by assumption)) rfl ?_)); (case hh => repeat (first | exact SubH.nil | refine SubH.cons rfl rfl rfl ?_)))
  rintro m st ⟨i, j, ys, hj, rfl, hK, rfl⟩
  have hys := hK.len
  have hml : (ys.map encP).length = ys.length := List.length_map ..
  have hij := hK.lt
  cases ht : l[j]? with
  | some e =>
   have hlt : j < l.length := (List.getElem?_eq_some_iff.1 ht).1
   have hte : ys[j]? = some e := (hK.get (Nat.le_refl _)).trans ht
   obtain ⟨o, ho⟩ : ∃ o, ys[i]? = some o := ⟨_, List.getElem?_eq_getElem (by omega)⟩
   (repeat (first | ((with_reducible refine VOps.same ?_); (first | (refine VOps.nil ?_; try dsimp only [VThen, VBlock]) | refine VOps.vP (VPure.move rfl rfl) ?_ | refine VOps.vP (VPure.len_arr TI.und' rfl rfl rfl) ?_ | refine VOps.vP (VPure.lss rfl rfl rfl) ?_)) | refine VCode.seq ?_ | refine VCode.region rfl ?_))
   refine VCode.cond_t rfl (decide_eq_true (by omega)) ?_
   (repeat (first | ((with_reducible refine VOps.same ?_); (first | (refine VOps.nil ?_; try dsimp only [VThen, VBlock]) | refine VOps.vP (VPure.move rfl rfl) ?_ | refine VOps.vP (VPure.idx_arrm rfl rfl rfl rfl (by assumption)) ?_ | refine VOps.vV (VLoad.boxA rfl rfl rfl (by rfl) (leR (by rfl)) (by decide)) ?_ | refine VOps.vV (VLoad.arrAm rfl rfl rfl (by rfl) (by assumption) rfl (leR (by rfl)) (by decide)) ?_ | refine VOps.alloc rfl rfl (by kernel_rfl) rfl (by kernel_rfl) rfl ?_ | refine VOps.store rfl rfl (by kernel_rfl) rfl rfl rfl rfl rfl rfl (leR (by rfl)) rfl ?_)) | refine VCode.seq ?_ | refine VCode.region rfl ?_ | refine VCode.block ?_ | refine VCode.skip ?_))
   (refine VOps.callL (ch := [(0, gO g), (1, cO (comps g w))]) [0, 1] rfl Try.func40 rfl (by kernel_rfl) rfl rfl rfl rfl ?hh (by decide) rfl rfl rfl (inner1_v hg e (hin e (List.mem_of_getElem? ht))) rfl (by rfl) rfl ?_; (case hh => repeat (first | exact SubH.nil | refine SubH.cons rfl rfl rfl ?_)))
   (repeat (first | ((with_reducible refine VOps.same ?_); (first | (refine VOps.nil ?_; try dsimp only [VThen, VBlock]) | refine VOps.vP (VPure.not rfl rfl) ?_))))
   refine VCode.cond rfl (fun hp => ?_) (fun hp => ?_)
   ·(repeat (first | ((with_reducible refine VOps.same ?_); (first | refine VOps.vP (VPure.move rfl rfl) ?_ | refine VOps.vP (VPure.idx_arrm rfl rfl rfl rfl (by assumption)) ?_ | refine VOps.vV (VLoad.boxA rfl rfl rfl (by rfl) (leR (by rfl)) (by decide)) ?_)) | refine VCode.seq ?_ | refine VCode.region rfl ?_))
    refine VOps.store_arrm (u' := e ) (ys :=  ys.set i e) rfl rfl (by kernel_rfl) rfl rfl rfl rfl (by rfl) (by assumption) rfl rfl (by first | decide | exact Nat.le_of_ble_eq_true (by rfl)) (by rfl) (by rfl) ?_
    (repeat (first | ((with_reducible refine VOps.same ?_); (first | (refine VOps.nil ?_; try dsimp only [VThen, VBlock]) | refine VOps.vP (VPure.move rfl rfl) ?_ | refine VOps.vP (VPure.assign rfl rfl) ?_ | refine VOps.vP (VPure.addK rfl rfl rfl (by omega)) ?_)) | refine VCode.region rfl ?_))
    (refine Less.mkx (l := [0, 1, 2]) 3 hcx (by exact Nat.le_of_ble_eq_true rfl) (by decide) ?ss ?hh rfl (by decide) rfl ⟨_, ?_, i + 1, j + 1, ys.set i e, by omega, rfl, hK.keep ht (by simpa using hp), rfl⟩; (case ss => repeat (first | exact SubS.nil | refine SubS.cons rfl rfl ?_ | refine SubS.cons (ciI (by omega)) rfl ?_ | refine SubS.cons (ciB (by assumption)) rfl ?_)); (case hh => repeat (first | exact SubH.nil | refine SubH.cons rfl rfl rfl ?_)))
    omega
   ·(repeat (first | ((with_reducible refine VOps.same ?_); (first | (refine VOps.nil ?_; try dsimp only [VThen, VBlock]) | refine VOps.vP (VPure.move rfl rfl) ?_ | refine VOps.vP (VPure.assign rfl rfl) ?_ | refine VOps.vP (VPure.addK rfl rfl rfl (by omega)) ?_)) | refine VCode.region rfl ?_ | refine VCode.skip ?_))
    (refine Less.mkx (l := [0, 1, 2]) 3 hcx (by exact Nat.le_of_ble_eq_true rfl) (by decide) ?ss ?hh rfl (by decide) rfl ⟨_, ?_, i, j + 1, ys, by omega, rfl, hK.drop ht (by simpa using hp), rfl⟩; (case ss => repeat (first | exact SubS.nil | refine SubS.cons rfl rfl ?_ | refine SubS.cons (ciI (by omega)) rfl ?_ | refine SubS.cons (ciB (by assumption)) rfl ?_)); (case hh => repeat (first | exact SubH.nil | refine SubH.cons rfl rfl rfl ?_)))
    omega
  | none =>
   have hge : l.length ≤ j := List.getElem?_eq_none_iff.1 ht
   obtain rfl : j = l.length := by omega
   (repeat (first | ((with_reducible refine VOps.same ?_); (first | (refine VOps.nil ?_; try dsimp only [VThen, VBlock]) | refine VOps.vP (VPure.move rfl rfl) ?_ | refine VOps.vP (VPure.len_arr TI.und' rfl rfl rfl) ?_ | refine VOps.vP (VPure.lss rfl rfl rfl) ?_)) | refine VCode.seq ?_ | refine VCode.region rfl ?_))
   refine VCode.cond_f rfl (decide_eq_false (by omega)) ?_
   (repeat (first | ((with_reducible refine VOps.same ?_); (first | refine VOps.vP (VPure.move rfl rfl) ?_)) | refine VCode.seq ?_ | refine VCode.region rfl ?_ | refine VCode.exit ?_))
   refine VOps.clear (zs := (ys.take i ++ List.replicate (ys.length - i) ((0, 0) : Spot)).map encP) rfl rfl rfl rfl rfl rfl rfl rfl rfl (by kernel_rfl) (by rfl) (by decide) (by rw [List.length_map]; omega) (by rw [List.map_append, List.map_take, List.map_replicate, List.length_map]; rfl) ?_
   (repeat (first | ((with_reducible refine VOps.same ?_); (first | (refine VOps.nil ?_; try dsimp only [VThen, VBlock]) | refine VOps.vP (VPure.move rfl rfl) ?_)) | refine VCode.seq ?_ | refine VCode.region rfl ?_))
   refine VOps.cut_own (zs := (l.filter fun x => !(fun x => !inS g w x) x).map encP) rfl (by kernel_rfl) rfl rfl rfl rfl rfl (by simp; omega) (by rw [← List.map_take, List.take_append_of_le_length (by rw [List.length_take]; omega), List.take_take, Nat.min_self, hK.done]) ?_
   (repeat (first | ((with_reducible refine VOps.same ?_); (first | (refine VOps.nil ?_; try dsimp only [VThen, VBlock]) | refine VOps.vP (VPure.assign rfl rfl) ?_))))
   refine VCode.ret ?_
   (show Less cx _ _; refine Less.mkx (l := [0, 1, 2, 3]) (st' := ⟨[(4, .ref 3)], [(0, gO g), (1, cO (comps g w)), (3, .arr 44 2 ((l.filter fun x => !(fun x => !inS g w x) x).map encP))], 4⟩) 3 hcx (Nat.le_of_ble_eq_true rfl) (by decide) ?ss ?hh rfl (by decide) rfl ⟨_, (.tmp rfl .nil), rfl, rfl, rfl⟩; (case ss => repeat (first | exact SubS.nil | refine SubS.cons rfl rfl ?_ | refine SubS.cons (ciI (by omega)) rfl ?_ | refine SubS.cons (ciB (by assumption)) rfl ?_)); (case hh => repeat (first | exact SubH.nil | refine SubH.cons rfl rfl rfl ?_)))
set_option maxHeartbeats 2000000 in
theorem inner_v (g : Gr) (w : List Spot) (hg : Sized g) (hw : w.length ≤ 1000000) : VCalls Try.prog 23 [gV g, sV w] [] 0 (Gives (.sl 2 ((innerS g w).map encP))) := by
 have hl := restS_len g w
 have hrm : ∀ y ∈ restS g w, y ∈ spots g := fun y hy => (mem_restS.1 hy).1
 refine VCalls.enterD (n := 14) Try.func23 rfl rfl (by simp) rfl (fun cx hcx => ?_)
 (repeat (first | ((with_reducible refine VOps.same ?_); (first | (refine VOps.nil ?_; try dsimp only [VThen, VBlock]) | refine VOps.vP (VPure.move rfl rfl) ?_ | refine VOps.vP (VPure.assign rfl rfl) ?_ | refine VOps.vV (VLoad.boxA rfl rfl rfl (by rfl) (leR (by rfl)) (by decide)) ?_ | refine VOps.box rfl rfl (by kernel_rfl) rfl rfl rfl rfl ?_)) | refine VCode.seq ?_ | refine VCode.region rfl ?_))
 refine VOps.gives rfl Try.func21 rfl (by kernel_rfl) rfl rfl rfl rfl rfl rfl rfl rfl (comps_v g w hg hw) ?_
 (repeat (first | ((with_reducible refine VOps.same ?_); (first | (refine VOps.nil ?_; try dsimp only [VThen, VBlock]) | refine VOps.vP (VPure.move rfl rfl) ?_ | refine VOps.vV (VLoad.boxA rfl rfl rfl (by rfl) (leR (by rfl)) (by decide)) ?_ | refine VOps.alloc rfl rfl (by kernel_rfl) rfl (by kernel_rfl) rfl ?_ | refine VOps.store rfl rfl (by kernel_rfl) rfl rfl rfl rfl rfl rfl (leR (by rfl)) rfl ?_)) | refine VCode.seq ?_ | refine VCode.region rfl ?_))
 (refine VOps.callL (ch := []) [] rfl Try.func36 rfl (by kernel_rfl) rfl rfl rfl rfl ?hh (by decide) rfl rfl rfl (rest_o g w hg hw) rfl (by rfl) rfl ?_; (case hh => repeat (first | exact SubH.nil | refine SubH.cons rfl rfl rfl ?_)))
 (repeat (first | ((with_reducible refine VOps.same ?_); (first | refine VOps.vP (VPure.fnE rfl rfl) ?_))))
 (refine VOps.callL (ch := [(0, gO g), (1, cO (comps g w)), (2, .arr 44 2 ((restS g w).map encP))]) [0, 1, 2] rfl Try.func39 rfl (by kernel_rfl) rfl rfl rfl rfl ?hh (by decide) rfl rfl rfl (delI_v (w := w) hg (restS g w) (by omega) hrm) rfl (by rfl) rfl ?_; (case hh => repeat (first | exact SubH.nil | refine SubH.cons rfl rfl rfl ?_)))
 (repeat (first | ((with_reducible refine VOps.same ?_); (first | (refine VOps.nil ?_; try dsimp only [VThen, VBlock]) | refine VOps.vP (VPure.assign rfl rfl) ?_))))
 refine VCode.freeze (id := 3) rfl ?_
 refine VCode.retD rfl rfl (.tmp rfl .nil) ?_
 have : (restS g w).filter (fun x => !(fun x => !inS g w x) x) = innerS g w := by
  unfold innerS
  congr 1
  funext x
  simp
 rw [this]; rfl
end Go.Proofs.Ytfjfbapiheehaaa.V
end
section
set_option linter.unusedVariables false
set_option linter.unusedSimpArgs false
namespace Go.Proofs.Ytfjfbapiheehaaa.V
open Go Go.RowKit
def lgo : Nat → List Nat → Nat
 | n, [] => n
 | n, m :: l => if n ≤ 4000 then lgo (n + 1 + min m 4000) l else n
theorem lgo_stop {n : Nat} (h : 4000 < n) (l : List Nat) : lgo n l = n := by
 cases l with
 | nil => rfl
 | cons m l => unfold lgo; rw [if_neg (by omega)]
theorem lgo_small (l : List Nat) : ∀ n, lgo n l ≤ 4000 → n + l.length ≤ 4000 ∧ ∀ m ∈ l, m ≤ 4000 := by
 induction l with
 | nil => intro n h; exact ⟨h, fun m h => by cases h⟩
 | cons m l ih =>
  intro n h
  unfold lgo at h
  split at h
  ·obtain ⟨h1, h2⟩ := ih _ h
   rw [List.length_cons]
   refine ⟨by omega, fun q hq => ?_⟩
   rcases List.mem_cons.1 hq with rfl | hq
   ·omega
   ·exact h2 q hq
  ·omega
theorem lgo_step {l : List Nat} {k n m : Nat} (h : l[k]? = some m) (hn : n ≤ 4000) : lgo n (l.drop k) = lgo (n + 1 + min m 4000) (l.drop (k + 1)) := by
 rw [List.drop_eq_getElem_cons (List.getElem?_eq_some_iff.1 h).1, (List.getElem?_eq_some_iff.1 h).2]
 conv => lhs; unfold lgo
 rw [if_pos hn]
theorem lgo_done {l : List Nat} {k n : Nat} (h : l.length ≤ k) : lgo n (l.drop k) = n := by
 rw [List.drop_of_length_le h]; rfl
theorem lgo_max (l : List Nat) : ∀ n, n ≤ 8001 → lgo n l ≤ 8001 := by
 induction l with
 | nil => intro n h; exact h
 | cons m l ih =>
  intro n h
  unfold lgo
  split
  ·exact ih _ (by omega)
  ·exact h
def tsz (g : Gr) : List Nat := g.terms.map ByteArray.size
def nsz (g : Gr) : List Nat := g.names.map ByteArray.size
def rsz (g : Gr) : List Nat := g.rules.map fun r => r.right.length
def sum1 (g : Gr) : Nat := lgo 0 (tsz g)
def sum2 (g : Gr) : Nat := lgo (sum1 g) (nsz g)
def sum3 (g : Gr) : Nat := lgo (sum2 g) (rsz g)
def largeG (g : Gr) : Bool := decide (4000 < sum3 g) || decide (200 < g.rules.length)
theorem small_sized {g : Gr} (h : largeG g = false) : Sized g ∧ g.rules.length ≤ 200 := by
 unfold largeG at h
 simp only [Bool.or_eq_false_iff, decide_eq_false_iff_not] at h
 have h3 := lgo_small (rsz g) (sum2 g) (by have := h.1; unfold sum3 at this; omega)
 have h2 := lgo_small (nsz g) (sum1 g) (by have := h3.1; unfold sum2 at this; omega)
 have h1 := lgo_small (tsz g) 0 (by have := h2.1; unfold sum1 at this; omega)
 simp only [tsz, nsz, rsz, List.length_map] at h1 h2 h3
 refine ⟨⟨by omega, by omega, by omega, fun r hr => h3.2 _ (List.mem_map.2 ⟨r, hr, rfl⟩), fun s hs => h1.2 _ (List.mem_map.2 ⟨s, hs, rfl⟩), fun s hs => h2.2 _ (List.mem_map.2 ⟨s, hs, rfl⟩)⟩, by omega⟩
theorem min_is (m : Nat) : (if (4000 : Int) < (m : Int) then (4000 : Int) else (m : Int)) = ((min m 4000 : Nat) : Int) := by split <;> omega
theorem sum_bound {n m : Nat} (h : n ≤ 4000) : n + 1 + min m 4000 ≤ 8001 := by omega
set_option maxHeartbeats 4000000 in
theorem large_v (g : Gr) : VCalls Try.prog 11 [gV g] [] 0 (Gives (.val (.bool (largeG g)))) := by
 have b1 : sum1 g ≤ 8001 := lgo_max _ _ (by omega)
 have b2 : sum2 g ≤ 8001 := lgo_max _ _ b1
 have b3 : sum3 g ≤ 8001 := lgo_max _ _ b2
 refine VCalls.enterD (n := 79) Try.func11 rfl rfl (by simp) rfl (fun cx hcx => ?_)
 (repeat (first | ((with_reducible refine VOps.same ?_); (first | (refine VOps.nil ?_; try dsimp only [VThen, VBlock]) | refine VOps.vP (VPure.assign rfl rfl) ?_ | refine VOps.box rfl rfl (by kernel_rfl) rfl rfl rfl rfl ?_)) | refine VCode.seq ?_ | refine VCode.region rfl ?_))
 refine VCode.thenTo ⟨[(3, .val (.int .i64 ((sum1 g : Nat) : Int))), (1, .ptr 0 0)], [(0, gO g)], 1⟩ ?_ ?_
 ·(repeat (first | refine VCode.block ?_))
  refine VCode.loop (fun m st => ∃ k n : Nat, m = 8002 - n ∧ k ≤ n ∧ n ≤ 8001 ∧ lgo n ((tsz g).drop k) = sum1 g ∧ st = ⟨[(4, .val (.int .i64 (k : Int))), (3, .val (.int .i64 (n : Int))), (1, .ptr 0 0)], [(0, gO g)], 1⟩) (8002 - 0) ?_ ?_
  ·(refine Less.mk (l := [0]) hcx ?ss ?hh rfl (by decide) rfl ⟨0, 0, rfl, by omega, by omega, rfl, rfl⟩; (case ss => repeat (first | exact SubS.nil | refine SubS.cons rfl rfl ?_ | refine SubS.cons (ciI (by omega)) rfl ?_ | refine SubS.cons (ciB (by assumption)) rfl ?_)); (case hh => repeat (first | exact SubH.nil | refine SubH.cons rfl rfl rfl ?_)))
  rintro m st ⟨k, n, rfl, hkn, hn1, hl, rfl⟩
  by_cases hc1 : k < g.terms.length
  ·by_cases hc2 : n ≤ 4000
   ·obtain ⟨y, hy⟩ : ∃ y, g.terms[k]? = some y := ⟨_, List.getElem?_eq_getElem hc1⟩
    have hz : (tsz g)[k]? = some (y.size) := by unfold tsz; rw [List.getElem?_map, hy]; rfl
    rw [lgo_step hz hc2] at hl
    have hsb := sum_bound (m := y.size) hc2
    (repeat (first | ((with_reducible refine VOps.same ?_); (first | refine VOps.vP (VPure.move rfl rfl) ?_ | refine VOps.vP (VPure.len_map TI.und' rfl rfl) ?_ | refine VOps.vP (VPure.field_ptr rfl rfl rfl) ?_ | refine VOps.vV (VLoad.box1 rfl rfl rfl rfl (by rfl) (by decide)) ?_ | refine VOps.vP (VPure.lss rfl rfl rfl) ?_)) | refine VCode.seq ?_ | refine VCode.region rfl ?_))
    refine VOps.says (d := 12) (v := .val (.bool true)) rfl (by rw [decide_eq_true (by omega)]) ?_
    (repeat (first | ((with_reducible refine VOps.same ?_); (first | (refine VOps.nil ?_; try dsimp only [VThen, VBlock]) | refine VOps.vP (VPure.move rfl rfl) ?_ | refine VOps.vP (VPure.leq rfl rfl rfl) ?_ | refine VOps.vP (VPure.pick_t rfl rfl rfl) ?_))))
    refine VCode.cond_t rfl (decide_eq_true (by omega)) ?_
    (repeat (first | ((with_reducible refine VOps.same ?_); (first | refine VOps.vP (VPure.move rfl rfl) ?_ | refine VOps.vP (VPure.len_str TI.und' rfl rfl) ?_ | refine VOps.vP (VPure.idx_map rfl rfl rfl (by assumption)) ?_ | refine VOps.vP (VPure.field_ptr rfl rfl rfl) ?_ | refine VOps.vV (VLoad.el1 rfl rfl rfl (by rfl)) ?_ | refine VOps.vV (VLoad.box1 rfl rfl rfl rfl (by rfl) (by decide)) ?_)) | refine VCode.seq ?_ | refine VCode.region rfl ?_ | refine VCode.block ?_ | refine VCode.skip ?_))
    refine VOps.vP (VPure.min rfl rfl rfl) ?_
    refine VOps.says (d := 25) (v := .val (.int .i64 ((min (y.size) 4000 : Nat) : Int))) rfl (by rw [min_is]) ?_
    (repeat (first | ((with_reducible refine VOps.same ?_); (first | (refine VOps.nil ?_; try dsimp only [VThen, VBlock]) | refine VOps.vP (VPure.move rfl rfl) ?_ | refine VOps.vP (VPure.assign rfl rfl) ?_ | refine VOps.vP (VPure.addK rfl rfl rfl (by omega)) ?_)) | refine VCode.region rfl ?_))
    (refine Less.mk (l := [0]) hcx ?ss ?hh rfl (by decide) rfl ⟨_, ?_, k + 1, n + 1 + min (y.size) 4000, rfl, by omega, by omega, hl, rfl⟩; (case ss => repeat (first | exact SubS.nil | refine SubS.cons rfl rfl ?_ | refine SubS.cons (ciI (by omega)) rfl ?_ | refine SubS.cons (ciB (by assumption)) rfl ?_)); (case hh => repeat (first | exact SubH.nil | refine SubH.cons rfl rfl rfl ?_)))
    omega
   ·rw [lgo_stop (by omega)] at hl
    subst hl
    (repeat (first | ((with_reducible refine VOps.same ?_); (first | refine VOps.vP (VPure.move rfl rfl) ?_ | refine VOps.vP (VPure.len_map TI.und' rfl rfl) ?_ | refine VOps.vP (VPure.field_ptr rfl rfl rfl) ?_ | refine VOps.vV (VLoad.box1 rfl rfl rfl rfl (by rfl) (by decide)) ?_ | refine VOps.vP (VPure.lss rfl rfl rfl) ?_)) | refine VCode.seq ?_ | refine VCode.region rfl ?_))
    refine VOps.says (d := 12) (v := .val (.bool true)) rfl (by rw [decide_eq_true (by omega)]) ?_
    (repeat (first | ((with_reducible refine VOps.same ?_); (first | (refine VOps.nil ?_; try dsimp only [VThen, VBlock]) | refine VOps.vP (VPure.move rfl rfl) ?_ | refine VOps.vP (VPure.leq rfl rfl rfl) ?_ | refine VOps.vP (VPure.pick_t rfl rfl rfl) ?_))))
    refine VCode.cond_f rfl (decide_eq_false (by omega)) ?_
    (repeat (first | refine VCode.exit ?_))
    (refine Less.mk (l := [0]) hcx ?ss ?hh rfl (by decide) rfl rfl; (case ss => repeat (first | exact SubS.nil | refine SubS.cons rfl rfl ?_ | refine SubS.cons (ciI (by omega)) rfl ?_ | refine SubS.cons (ciB (by assumption)) rfl ?_)); (case hh => repeat (first | exact SubH.nil | refine SubH.cons rfl rfl rfl ?_)))
  ·rw [lgo_done (by unfold tsz; rw [List.length_map]; omega)] at hl
   subst hl
   (repeat (first | ((with_reducible refine VOps.same ?_); (first | refine VOps.vP (VPure.move rfl rfl) ?_ | refine VOps.vP (VPure.len_map TI.und' rfl rfl) ?_ | refine VOps.vP (VPure.field_ptr rfl rfl rfl) ?_ | refine VOps.vV (VLoad.box1 rfl rfl rfl rfl (by rfl) (by decide)) ?_ | refine VOps.vP (VPure.lss rfl rfl rfl) ?_)) | refine VCode.seq ?_ | refine VCode.region rfl ?_))
   refine VOps.says (d := 12) (v := .val (.bool false)) rfl (by rw [decide_eq_false (by omega)]) ?_
   (repeat (first | ((with_reducible refine VOps.same ?_); (first | (refine VOps.nil ?_; try dsimp only [VThen, VBlock]) | refine VOps.vP (VPure.pick_f rfl rfl rfl) ?_ | refine VOps.passv rfl (by kernel_rfl) rfl ?_))))
   refine VCode.cond_f rfl rfl ?_
   (repeat (first | refine VCode.exit ?_))
   (refine Less.mk (l := [0]) hcx ?ss ?hh rfl (by decide) rfl rfl; (case ss => repeat (first | exact SubS.nil | refine SubS.cons rfl rfl ?_ | refine SubS.cons (ciI (by omega)) rfl ?_ | refine SubS.cons (ciB (by assumption)) rfl ?_)); (case hh => repeat (first | exact SubH.nil | refine SubH.cons rfl rfl rfl ?_)))
 (repeat (first | ((with_reducible refine VOps.same ?_); (first | (refine VOps.nil ?_; try dsimp only [VThen, VBlock]) | refine VOps.vP (VPure.assign rfl rfl) ?_)) | refine VCode.seq ?_ | refine VCode.region rfl ?_))
 refine VCode.thenTo ⟨[(3, .val (.int .i64 ((sum2 g : Nat) : Int))), (1, .ptr 0 0)], [(0, gO g)], 1⟩ ?_ ?_
 ·(repeat (first | refine VCode.block ?_))
  refine VCode.loop (fun m st => ∃ k n : Nat, m = 8002 - n ∧ k ≤ n + 0 ∧ n ≤ 8001 ∧ lgo n ((nsz g).drop k) = sum2 g ∧ st = ⟨[(5, .val (.int .i64 (k : Int))), (3, .val (.int .i64 (n : Int))), (1, .ptr 0 0)], [(0, gO g)], 1⟩) (8002 - sum1 g) ?_ ?_
  ·(refine Less.mk (l := [0]) hcx ?ss ?hh rfl (by decide) rfl ⟨0, sum1 g, rfl, by omega, b1, rfl, rfl⟩; (case ss => repeat (first | exact SubS.nil | refine SubS.cons rfl rfl ?_ | refine SubS.cons (ciI (by omega)) rfl ?_ | refine SubS.cons (ciB (by assumption)) rfl ?_)); (case hh => repeat (first | exact SubH.nil | refine SubH.cons rfl rfl rfl ?_)))
  rintro m st ⟨k, n, rfl, hkn, hn1, hl, rfl⟩
  by_cases hc1 : k < g.names.length
  ·by_cases hc2 : n ≤ 4000
   ·obtain ⟨y, hy⟩ : ∃ y, g.names[k]? = some y := ⟨_, List.getElem?_eq_getElem hc1⟩
    have hz : (nsz g)[k]? = some (y.size) := by unfold nsz; rw [List.getElem?_map, hy]; rfl
    rw [lgo_step hz hc2] at hl
    have hsb := sum_bound (m := y.size) hc2
    (repeat (first | ((with_reducible refine VOps.same ?_); (first | refine VOps.vP (VPure.move rfl rfl) ?_ | refine VOps.vP (VPure.len_map TI.und' rfl rfl) ?_ | refine VOps.vP (VPure.field_ptr rfl rfl rfl) ?_ | refine VOps.vV (VLoad.box1 rfl rfl rfl rfl (by rfl) (by decide)) ?_ | refine VOps.vP (VPure.lss rfl rfl rfl) ?_)) | refine VCode.seq ?_ | refine VCode.region rfl ?_))
    refine VOps.says (d := 33) (v := .val (.bool true)) rfl (by rw [decide_eq_true (by omega)]) ?_
    (repeat (first | ((with_reducible refine VOps.same ?_); (first | (refine VOps.nil ?_; try dsimp only [VThen, VBlock]) | refine VOps.vP (VPure.move rfl rfl) ?_ | refine VOps.vP (VPure.leq rfl rfl rfl) ?_ | refine VOps.vP (VPure.pick_t rfl rfl rfl) ?_))))
    refine VCode.cond_t rfl (decide_eq_true (by omega)) ?_
    (repeat (first | ((with_reducible refine VOps.same ?_); (first | refine VOps.vP (VPure.move rfl rfl) ?_ | refine VOps.vP (VPure.len_str TI.und' rfl rfl) ?_ | refine VOps.vP (VPure.idx_map rfl rfl rfl (by assumption)) ?_ | refine VOps.vP (VPure.field_ptr rfl rfl rfl) ?_ | refine VOps.vV (VLoad.el1 rfl rfl rfl (by rfl)) ?_ | refine VOps.vV (VLoad.box1 rfl rfl rfl rfl (by rfl) (by decide)) ?_)) | refine VCode.seq ?_ | refine VCode.region rfl ?_ | refine VCode.block ?_ | refine VCode.skip ?_))
    refine VOps.vP (VPure.min rfl rfl rfl) ?_
    refine VOps.says (d := 46) (v := .val (.int .i64 ((min (y.size) 4000 : Nat) : Int))) rfl (by rw [min_is]) ?_
    (repeat (first | ((with_reducible refine VOps.same ?_); (first | (refine VOps.nil ?_; try dsimp only [VThen, VBlock]) | refine VOps.vP (VPure.move rfl rfl) ?_ | refine VOps.vP (VPure.assign rfl rfl) ?_ | refine VOps.vP (VPure.addK rfl rfl rfl (by omega)) ?_)) | refine VCode.region rfl ?_))
    (refine Less.mk (l := [0]) hcx ?ss ?hh rfl (by decide) rfl ⟨_, ?_, k + 1, n + 1 + min (y.size) 4000, rfl, by omega, by omega, hl, rfl⟩; (case ss => repeat (first | exact SubS.nil | refine SubS.cons rfl rfl ?_ | refine SubS.cons (ciI (by omega)) rfl ?_ | refine SubS.cons (ciB (by assumption)) rfl ?_)); (case hh => repeat (first | exact SubH.nil | refine SubH.cons rfl rfl rfl ?_)))
    omega
   ·rw [lgo_stop (by omega)] at hl
    subst hl
    (repeat (first | ((with_reducible refine VOps.same ?_); (first | refine VOps.vP (VPure.move rfl rfl) ?_ | refine VOps.vP (VPure.len_map TI.und' rfl rfl) ?_ | refine VOps.vP (VPure.field_ptr rfl rfl rfl) ?_ | refine VOps.vV (VLoad.box1 rfl rfl rfl rfl (by rfl) (by decide)) ?_ | refine VOps.vP (VPure.lss rfl rfl rfl) ?_)) | refine VCode.seq ?_ | refine VCode.region rfl ?_))
    refine VOps.says (d := 33) (v := .val (.bool true)) rfl (by rw [decide_eq_true (by omega)]) ?_
    (repeat (first | ((with_reducible refine VOps.same ?_); (first | (refine VOps.nil ?_; try dsimp only [VThen, VBlock]) | refine VOps.vP (VPure.move rfl rfl) ?_ | refine VOps.vP (VPure.leq rfl rfl rfl) ?_ | refine VOps.vP (VPure.pick_t rfl rfl rfl) ?_))))
    refine VCode.cond_f rfl (decide_eq_false (by omega)) ?_
    (repeat (first | refine VCode.exit ?_))
    (refine Less.mk (l := [0]) hcx ?ss ?hh rfl (by decide) rfl rfl; (case ss => repeat (first | exact SubS.nil | refine SubS.cons rfl rfl ?_ | refine SubS.cons (ciI (by omega)) rfl ?_ | refine SubS.cons (ciB (by assumption)) rfl ?_)); (case hh => repeat (first | exact SubH.nil | refine SubH.cons rfl rfl rfl ?_)))
  ·rw [lgo_done (by unfold nsz; rw [List.length_map]; omega)] at hl
   subst hl
   (repeat (first | ((with_reducible refine VOps.same ?_); (first | refine VOps.vP (VPure.move rfl rfl) ?_ | refine VOps.vP (VPure.len_map TI.und' rfl rfl) ?_ | refine VOps.vP (VPure.field_ptr rfl rfl rfl) ?_ | refine VOps.vV (VLoad.box1 rfl rfl rfl rfl (by rfl) (by decide)) ?_ | refine VOps.vP (VPure.lss rfl rfl rfl) ?_)) | refine VCode.seq ?_ | refine VCode.region rfl ?_))
   refine VOps.says (d := 33) (v := .val (.bool false)) rfl (by rw [decide_eq_false (by omega)]) ?_
   (repeat (first | ((with_reducible refine VOps.same ?_); (first | (refine VOps.nil ?_; try dsimp only [VThen, VBlock]) | refine VOps.vP (VPure.pick_f rfl rfl rfl) ?_ | refine VOps.passv rfl (by kernel_rfl) rfl ?_))))
   refine VCode.cond_f rfl rfl ?_
   (repeat (first | refine VCode.exit ?_))
   (refine Less.mk (l := [0]) hcx ?ss ?hh rfl (by decide) rfl rfl; (case ss => repeat (first | exact SubS.nil | refine SubS.cons rfl rfl ?_ | refine SubS.cons (ciI (by omega)) rfl ?_ | refine SubS.cons (ciB (by assumption)) rfl ?_)); (case hh => repeat (first | exact SubH.nil | refine SubH.cons rfl rfl rfl ?_)))
 (repeat (first | ((with_reducible refine VOps.same ?_); (first | (refine VOps.nil ?_; try dsimp only [VThen, VBlock]) | refine VOps.vP (VPure.assign rfl rfl) ?_)) | refine VCode.seq ?_ | refine VCode.region rfl ?_))
 refine VCode.thenTo ⟨[(3, .val (.int .i64 ((sum3 g : Nat) : Int))), (1, .ptr 0 0)], [(0, gO g)], 1⟩ ?_ ?_
 ·(repeat (first | refine VCode.block ?_))
  refine VCode.loop (fun m st => ∃ k n : Nat, m = 8002 - n ∧ k ≤ n ∧ n ≤ 8001 ∧ lgo n ((rsz g).drop k) = sum3 g ∧ st = ⟨[(6, .val (.int .i64 (k : Int))), (3, .val (.int .i64 (n : Int))), (1, .ptr 0 0)], [(0, gO g)], 1⟩) (8002 - sum2 g) ?_ ?_
  ·(refine Less.mk (l := [0]) hcx ?ss ?hh rfl (by decide) rfl ⟨0, sum2 g, rfl, by omega, b2, rfl, rfl⟩; (case ss => repeat (first | exact SubS.nil | refine SubS.cons rfl rfl ?_ | refine SubS.cons (ciI (by omega)) rfl ?_ | refine SubS.cons (ciB (by assumption)) rfl ?_)); (case hh => repeat (first | exact SubH.nil | refine SubH.cons rfl rfl rfl ?_)))
  rintro m st ⟨k, n, rfl, hkn, hn1, hl, rfl⟩
  by_cases hc1 : k < g.rules.length
  ·by_cases hc2 : n ≤ 4000
   ·obtain ⟨y, hy⟩ : ∃ y, g.rules[k]? = some y := ⟨_, List.getElem?_eq_getElem hc1⟩
    have hz : (rsz g)[k]? = some (y.right.length) := by unfold rsz; rw [List.getElem?_map, hy]; rfl
    rw [lgo_step hz hc2] at hl
    have hsb := sum_bound (m := y.right.length) hc2
    (repeat (first | ((with_reducible refine VOps.same ?_); (first | refine VOps.vP (VPure.move rfl rfl) ?_ | refine VOps.vP (VPure.len_map TI.und' rfl rfl) ?_ | refine VOps.vP (VPure.field_ptr rfl rfl rfl) ?_ | refine VOps.vV (VLoad.box1 rfl rfl rfl rfl (by rfl) (by decide)) ?_ | refine VOps.vP (VPure.lss rfl rfl rfl) ?_)) | refine VCode.seq ?_ | refine VCode.region rfl ?_))
    refine VOps.says (d := 54) (v := .val (.bool true)) rfl (by rw [decide_eq_true (by omega)]) ?_
    (repeat (first | ((with_reducible refine VOps.same ?_); (first | (refine VOps.nil ?_; try dsimp only [VThen, VBlock]) | refine VOps.vP (VPure.move rfl rfl) ?_ | refine VOps.vP (VPure.leq rfl rfl rfl) ?_ | refine VOps.vP (VPure.pick_t rfl rfl rfl) ?_))))
    refine VCode.cond_t rfl (decide_eq_true (by omega)) ?_
    (repeat (first | ((with_reducible refine VOps.same ?_); (first | refine VOps.vP (VPure.move rfl rfl) ?_ | refine VOps.vP (VPure.len_map TI.und' rfl rfl) ?_ | refine VOps.vP (VPure.idx_map rfl rfl rfl (by assumption)) ?_ | refine VOps.vP (VPure.field_el rfl rfl) ?_ | refine VOps.vP (VPure.field_ptr rfl rfl rfl) ?_ | refine VOps.vV (VLoad.el1 rfl rfl rfl (by rfl)) ?_ | refine VOps.vV (VLoad.box1 rfl rfl rfl rfl (by rfl) (by decide)) ?_)) | refine VCode.seq ?_ | refine VCode.region rfl ?_ | refine VCode.block ?_ | refine VCode.skip ?_))
    refine VOps.vP (VPure.min rfl rfl rfl) ?_
    refine VOps.says (d := 68) (v := .val (.int .i64 ((min (y.right.length) 4000 : Nat) : Int))) rfl (by rw [min_is]) ?_
    (repeat (first | ((with_reducible refine VOps.same ?_); (first | (refine VOps.nil ?_; try dsimp only [VThen, VBlock]) | refine VOps.vP (VPure.move rfl rfl) ?_ | refine VOps.vP (VPure.assign rfl rfl) ?_ | refine VOps.vP (VPure.addK rfl rfl rfl (by omega)) ?_)) | refine VCode.region rfl ?_))
    (refine Less.mk (l := [0]) hcx ?ss ?hh rfl (by decide) rfl ⟨_, ?_, k + 1, n + 1 + min (y.right.length) 4000, rfl, by omega, by omega, hl, rfl⟩; (case ss => repeat (first | exact SubS.nil | refine SubS.cons rfl rfl ?_ | refine SubS.cons (ciI (by omega)) rfl ?_ | refine SubS.cons (ciB (by assumption)) rfl ?_)); (case hh => repeat (first | exact SubH.nil | refine SubH.cons rfl rfl rfl ?_)))
    omega
   ·rw [lgo_stop (by omega)] at hl
    subst hl
    (repeat (first | ((with_reducible refine VOps.same ?_); (first | refine VOps.vP (VPure.move rfl rfl) ?_ | refine VOps.vP (VPure.len_map TI.und' rfl rfl) ?_ | refine VOps.vP (VPure.field_ptr rfl rfl rfl) ?_ | refine VOps.vV (VLoad.box1 rfl rfl rfl rfl (by rfl) (by decide)) ?_ | refine VOps.vP (VPure.lss rfl rfl rfl) ?_)) | refine VCode.seq ?_ | refine VCode.region rfl ?_))
    refine VOps.says (d := 54) (v := .val (.bool true)) rfl (by rw [decide_eq_true (by omega)]) ?_
    (repeat (first | ((with_reducible refine VOps.same ?_); (first | (refine VOps.nil ?_; try dsimp only [VThen, VBlock]) | refine VOps.vP (VPure.move rfl rfl) ?_ | refine VOps.vP (VPure.leq rfl rfl rfl) ?_ | refine VOps.vP (VPure.pick_t rfl rfl rfl) ?_))))
    refine VCode.cond_f rfl (decide_eq_false (by omega)) ?_
    (repeat (first | refine VCode.exit ?_))
    (refine Less.mk (l := [0]) hcx ?ss ?hh rfl (by decide) rfl rfl; (case ss => repeat (first | exact SubS.nil | refine SubS.cons rfl rfl ?_ | refine SubS.cons (ciI (by omega)) rfl ?_ | refine SubS.cons (ciB (by assumption)) rfl ?_)); (case hh => repeat (first | exact SubH.nil | refine SubH.cons rfl rfl rfl ?_)))
  ·rw [lgo_done (by unfold rsz; rw [List.length_map]; omega)] at hl
   subst hl
   (repeat (first | ((with_reducible refine VOps.same ?_); (first | refine VOps.vP (VPure.move rfl rfl) ?_ | refine VOps.vP (VPure.len_map TI.und' rfl rfl) ?_ | refine VOps.vP (VPure.field_ptr rfl rfl rfl) ?_ | refine VOps.vV (VLoad.box1 rfl rfl rfl rfl (by rfl) (by decide)) ?_ | refine VOps.vP (VPure.lss rfl rfl rfl) ?_)) | refine VCode.seq ?_ | refine VCode.region rfl ?_))
   refine VOps.says (d := 54) (v := .val (.bool false)) rfl (by rw [decide_eq_false (by omega)]) ?_
   (repeat (first | ((with_reducible refine VOps.same ?_); (first | (refine VOps.nil ?_; try dsimp only [VThen, VBlock]) | refine VOps.vP (VPure.pick_f rfl rfl rfl) ?_ | refine VOps.passv rfl (by kernel_rfl) rfl ?_))))
   refine VCode.cond_f rfl rfl ?_
   (repeat (first | refine VCode.exit ?_))
   (refine Less.mk (l := [0]) hcx ?ss ?hh rfl (by decide) rfl rfl; (case ss => repeat (first | exact SubS.nil | refine SubS.cons rfl rfl ?_ | refine SubS.cons (ciI (by omega)) rfl ?_ | refine SubS.cons (ciB (by assumption)) rfl ?_)); (case hh => repeat (first | exact SubH.nil | refine SubH.cons rfl rfl rfl ?_)))
 (repeat (first | ((with_reducible refine VOps.same ?_); (first | refine VOps.vP (VPure.move rfl rfl) ?_ | refine VOps.vP (VPure.gtr rfl rfl rfl) ?_)) | refine VCode.seq ?_ | refine VCode.region rfl ?_))
 refine VOps.bool (d := 73) rfl (fun h1 => ?_) (fun h1 => ?_)
 ·(repeat (first | ((with_reducible refine VOps.same ?_); (first | (refine VOps.nil ?_; try dsimp only [VThen, VBlock]) | refine VOps.vP (VPure.assign rfl rfl) ?_ | refine VOps.vP (VPure.pick_t rfl rfl rfl) ?_ | refine VOps.passv rfl (by kernel_rfl) rfl ?_))))
  refine VCode.retD rfl rfl (.tmp rfl .nil) ?_
  have : largeG g = true := by unfold largeG; rw [decide_eq_true (by have := of_decide_eq_true h1; omega)]; rfl
  rw [this]; rfl
 ·(repeat (first | ((with_reducible refine VOps.same ?_); (first | (refine VOps.nil ?_; try dsimp only [VThen, VBlock]) | refine VOps.vP (VPure.assign rfl rfl) ?_ | refine VOps.vP (VPure.len_map TI.und' rfl rfl) ?_ | refine VOps.vP (VPure.field_ptr rfl rfl rfl) ?_ | refine VOps.vV (VLoad.box1 rfl rfl rfl rfl (by rfl) (by decide)) ?_ | refine VOps.vP (VPure.gtr rfl rfl rfl) ?_ | refine VOps.vP (VPure.pick_f rfl rfl rfl) ?_))))
  refine VCode.retD rfl rfl (.tmp rfl .nil) ?_
  have h1 := of_decide_eq_false h1
  have : largeG g = decide ((200 : Int) < (g.rules.length : Int)) := by
   unfold largeG
   rw [decide_eq_false (p := 4000 < sum3 g) (by omega), Bool.false_or, decide_eq_decide]; omega
  rw [this]; rfl
set_option maxHeartbeats 1000000 in
theorem ints_v (a b : List Nat) (ha : a.length ≤ 1000000) : VCalls Try.prog 20 [.sl 1 (a.map encN), .sl 1 (b.map encN)] [] 0 (Gives (.val (.bool (decide (a = b))))) := by
 refine VCalls.enter (n := 26) Try.func20 rfl rfl (by simp) (fun cx hcx => ?_)
 (repeat (first | ((with_reducible refine VOps.same ?_); (first | (refine VOps.nil ?_; try dsimp only [VThen, VBlock]) | refine VOps.vP (VPure.move rfl rfl) ?_ | refine VOps.vP (VPure.assign rfl rfl) ?_ | refine VOps.vP (VPure.len_map TI.und' rfl rfl) ?_ | refine VOps.vP (VPure.nei rfl rfl rfl) ?_)) | refine VCode.seq ?_ | refine VCode.region rfl ?_))
 refine VCode.cond rfl (fun hc => ?_) (fun hc => ?_)
 ·(repeat (first | ((with_reducible refine VOps.same ?_); (first | (refine VOps.nil ?_; try dsimp only [VThen, VBlock]) | refine VOps.vP (VPure.assign rfl rfl) ?_)) | refine VCode.seq ?_ | refine VCode.region rfl ?_))
  refine VCode.give hcx rfl rfl rfl rfl rfl ?_
  simp only [Bool.not_eq_true', decide_eq_false_iff_not] at hc
  have : decide (a = b) = false := decide_eq_false (fun h => hc (by rw [h]))
  rw [this]
 ·simp only [Bool.not_eq_false', decide_eq_true_eq] at hc
  have hlen : a.length = b.length := by omega
  (repeat (first | ((with_reducible refine VOps.same ?_); (first | (refine VOps.nil ?_; try dsimp only [VThen, VBlock]) | refine VOps.vP (VPure.assign rfl rfl) ?_)) | refine VCode.seq ?_ | refine VCode.region rfl ?_ | refine VCode.block ?_ | refine VCode.skip ?_))
  refine VCode.loop (fun m st => ∃ k : Nat, k ≤ a.length ∧ m = a.length - k ∧ a.take k = b.take k ∧ st = ⟨[(5, .val (.int .i64 (k : Int))), (0, .sl 1 (a.map encN)), (1, .sl 1 (b.map encN))], [], 0⟩) a.length ?_ ?_
  ·(refine Less.mk (l := []) hcx ?ss ?hh rfl (by decide) rfl ⟨0, by omega, by omega, by simp, rfl⟩; (case ss => repeat (first | exact SubS.nil | refine SubS.cons rfl rfl ?_ | refine SubS.cons (ciI (by omega)) rfl ?_ | refine SubS.cons (ciB (by assumption)) rfl ?_)); (case hh => repeat (first | exact SubH.nil | refine SubH.cons rfl rfl rfl ?_)))
  rintro m st ⟨k, hk, rfl, hs, rfl⟩
  cases ht : a[k]? with
  | some t =>
   have hlt : k < a.length := (List.getElem?_eq_some_iff.1 ht).1
   obtain ⟨u, hu⟩ : ∃ u, b[k]? = some u := ⟨_, List.getElem?_eq_getElem (by omega)⟩
   have hne : (!decide ((t : Int) = (u : Int))) = !decide (t = u) := by rw [decide_eq_decide.2 (by omega : ((t : Int) = (u : Int)) ↔ t = u)]
   (repeat (first | ((with_reducible refine VOps.same ?_); (first | (refine VOps.nil ?_; try dsimp only [VThen, VBlock]) | refine VOps.vP (VPure.move rfl rfl) ?_ | refine VOps.vP (VPure.len_map TI.und' rfl rfl) ?_ | refine VOps.vP (VPure.lss rfl rfl rfl) ?_)) | refine VCode.seq ?_ | refine VCode.region rfl ?_))
   refine VCode.cond_t rfl (decide_eq_true (by omega)) ?_
   (repeat (first | ((with_reducible refine VOps.same ?_); (first | (refine VOps.nil ?_; try dsimp only [VThen, VBlock]) | refine VOps.vP (VPure.move rfl rfl) ?_ | refine VOps.vP (VPure.idx_map rfl rfl rfl (by assumption)) ?_ | refine VOps.vV (VLoad.el1 rfl rfl rfl (by rfl)) ?_ | refine VOps.vP (VPure.nei rfl rfl rfl) ?_)) | refine VCode.seq ?_ | refine VCode.draw [] rfl ?_ | refine VCode.block ?_ | refine VCode.skip ?_))
   refine VCode.cond rfl (fun hb => ?_) (fun hb => ?_)
   ·(repeat (first | ((with_reducible refine VOps.same ?_); (first | (refine VOps.nil ?_; try dsimp only [VThen, VBlock]) | refine VOps.vP (VPure.assign rfl rfl) ?_)) | refine VCode.seq ?_ | refine VCode.region rfl ?_))
    refine VCode.give hcx rfl rfl rfl rfl rfl ?_
    have hb := hne.symm.trans hb
    have hne : t ≠ u := by simpa using hb
    have : decide (a = b) = false := decide_eq_false (fun e => hne (by subst e; rw [ht] at hu; exact Option.some.inj hu))
    rw [this]
   ·have hb := hne.symm.trans hb
    (repeat (first | ((with_reducible refine VOps.same ?_); (first | (refine VOps.nil ?_; try dsimp only [VThen, VBlock]) | refine VOps.vP (VPure.move rfl rfl) ?_ | refine VOps.vP (VPure.assign rfl rfl) ?_ | refine VOps.vP (VPure.addK rfl rfl rfl (by omega)) ?_)) | refine VCode.region rfl ?_ | refine VCode.skip ?_))
    (refine Less.mk (l := []) hcx ?ss ?hh rfl (by decide) rfl ⟨_, ?_, k + 1, by omega, rfl, take_eq hs ht hu (by simpa using hb), rfl⟩; (case ss => repeat (first | exact SubS.nil | refine SubS.cons rfl rfl ?_ | refine SubS.cons (ciI (by omega)) rfl ?_ | refine SubS.cons (ciB (by assumption)) rfl ?_)); (case hh => repeat (first | exact SubH.nil | refine SubH.cons rfl rfl rfl ?_)))
    omega
  | none =>
   have hge : a.length ≤ k := List.getElem?_eq_none_iff.1 ht
   rw [List.take_of_length_le hge, List.take_of_length_le (by omega)] at hs
   (repeat (first | ((with_reducible refine VOps.same ?_); (first | (refine VOps.nil ?_; try dsimp only [VThen, VBlock]) | refine VOps.vP (VPure.move rfl rfl) ?_ | refine VOps.vP (VPure.len_map TI.und' rfl rfl) ?_ | refine VOps.vP (VPure.lss rfl rfl rfl) ?_)) | refine VCode.seq ?_ | refine VCode.region rfl ?_))
   refine VCode.cond_f rfl (decide_eq_false (by omega)) ?_
   (repeat (first | ((with_reducible refine VOps.same ?_); (first | (refine VOps.nil ?_; try dsimp only [VThen, VBlock]) | refine VOps.vP (VPure.assign rfl rfl) ?_)) | refine VCode.seq ?_ | refine VCode.region rfl ?_ | refine VCode.exit ?_))
   refine VCode.give hcx rfl rfl rfl rfl rfl ?_
   rw [decide_eq_true hs]
set_option maxHeartbeats 1000000 in
theorem spots_v (a b : List Spot) (ha : a.length ≤ 1000000) : VCalls Try.prog 17 [.sl 2 (a.map encP), .sl 2 (b.map encP)] [] 0 (Gives (.val (.bool (decide (a = b))))) := by
 refine VCalls.enter (n := 26) Try.func17 rfl rfl (by simp) (fun cx hcx => ?_)
 (repeat (first | ((with_reducible refine VOps.same ?_); (first | (refine VOps.nil ?_; try dsimp only [VThen, VBlock]) | refine VOps.vP (VPure.move rfl rfl) ?_ | refine VOps.vP (VPure.assign rfl rfl) ?_ | refine VOps.vP (VPure.len_map TI.und' rfl rfl) ?_ | refine VOps.vP (VPure.nei rfl rfl rfl) ?_)) | refine VCode.seq ?_ | refine VCode.region rfl ?_))
 refine VCode.cond rfl (fun hc => ?_) (fun hc => ?_)
 ·(repeat (first | ((with_reducible refine VOps.same ?_); (first | (refine VOps.nil ?_; try dsimp only [VThen, VBlock]) | refine VOps.vP (VPure.assign rfl rfl) ?_)) | refine VCode.seq ?_ | refine VCode.region rfl ?_))
  refine VCode.give hcx rfl rfl rfl rfl rfl ?_
  simp only [Bool.not_eq_true', decide_eq_false_iff_not] at hc
  have : decide (a = b) = false := decide_eq_false (fun h => hc (by rw [h]))
  rw [this]
 ·simp only [Bool.not_eq_false', decide_eq_true_eq] at hc
  have hlen : a.length = b.length := by omega
  (repeat (first | ((with_reducible refine VOps.same ?_); (first | (refine VOps.nil ?_; try dsimp only [VThen, VBlock]) | refine VOps.vP (VPure.assign rfl rfl) ?_)) | refine VCode.seq ?_ | refine VCode.region rfl ?_ | refine VCode.block ?_ | refine VCode.skip ?_))
  refine VCode.loop (fun m st => ∃ k : Nat, k ≤ a.length ∧ m = a.length - k ∧ a.take k = b.take k ∧ st = ⟨[(5, .val (.int .i64 (k : Int))), (0, .sl 2 (a.map encP)), (1, .sl 2 (b.map encP))], [], 0⟩) a.length ?_ ?_
  ·(refine Less.mk (l := []) hcx ?ss ?hh rfl (by decide) rfl ⟨0, by omega, by omega, by simp, rfl⟩; (case ss => repeat (first | exact SubS.nil | refine SubS.cons rfl rfl ?_ | refine SubS.cons (ciI (by omega)) rfl ?_ | refine SubS.cons (ciB (by assumption)) rfl ?_)); (case hh => repeat (first | exact SubH.nil | refine SubH.cons rfl rfl rfl ?_)))
  rintro m st ⟨k, hk, rfl, hs, rfl⟩
  cases ht : a[k]? with
  | some t =>
   have hlt : k < a.length := (List.getElem?_eq_some_iff.1 ht).1
   obtain ⟨u, hu⟩ : ∃ u, b[k]? = some u := ⟨_, List.getElem?_eq_getElem (by omega)⟩
   have hne : (!spotEq t u) = !decide (t = u) := by rw [spotEq_is]
   (repeat (first | ((with_reducible refine VOps.same ?_); (first | (refine VOps.nil ?_; try dsimp only [VThen, VBlock]) | refine VOps.vP (VPure.move rfl rfl) ?_ | refine VOps.vP (VPure.len_map TI.und' rfl rfl) ?_ | refine VOps.vP (VPure.lss rfl rfl rfl) ?_)) | refine VCode.seq ?_ | refine VCode.region rfl ?_))
   refine VCode.cond_t rfl (decide_eq_true (by omega)) ?_
   (repeat (first | ((with_reducible refine VOps.same ?_); (first | (refine VOps.nil ?_; try dsimp only [VThen, VBlock]) | refine VOps.vP (VPure.move rfl rfl) ?_ | refine VOps.vP (VPure.idx_map rfl rfl rfl (by assumption)) ?_ | refine VOps.vV (VLoad.elA rfl rfl (by rfl) (leR (by rfl))) ?_ | refine VOps.vP (VPure.neA rfl rfl rfl (by rfl)) ?_)) | refine VCode.seq ?_ | refine VCode.draw [] rfl ?_ | refine VCode.block ?_ | refine VCode.skip ?_))
   refine VCode.cond rfl (fun hb => ?_) (fun hb => ?_)
   ·(repeat (first | ((with_reducible refine VOps.same ?_); (first | (refine VOps.nil ?_; try dsimp only [VThen, VBlock]) | refine VOps.vP (VPure.assign rfl rfl) ?_)) | refine VCode.seq ?_ | refine VCode.region rfl ?_))
    refine VCode.give hcx rfl rfl rfl rfl rfl ?_
    have hb := hne.symm.trans hb
    have hne : t ≠ u := by simpa using hb
    have : decide (a = b) = false := decide_eq_false (fun e => hne (by subst e; rw [ht] at hu; exact Option.some.inj hu))
    rw [this]
   ·have hb := hne.symm.trans hb
    (repeat (first | ((with_reducible refine VOps.same ?_); (first | (refine VOps.nil ?_; try dsimp only [VThen, VBlock]) | refine VOps.vP (VPure.move rfl rfl) ?_ | refine VOps.vP (VPure.assign rfl rfl) ?_ | refine VOps.vP (VPure.addK rfl rfl rfl (by omega)) ?_)) | refine VCode.region rfl ?_ | refine VCode.skip ?_))
    (refine Less.mk (l := []) hcx ?ss ?hh rfl (by decide) rfl ⟨_, ?_, k + 1, by omega, rfl, take_eq hs ht hu (by simpa using hb), rfl⟩; (case ss => repeat (first | exact SubS.nil | refine SubS.cons rfl rfl ?_ | refine SubS.cons (ciI (by omega)) rfl ?_ | refine SubS.cons (ciB (by assumption)) rfl ?_)); (case hh => repeat (first | exact SubH.nil | refine SubH.cons rfl rfl rfl ?_)))
    omega
  | none =>
   have hge : a.length ≤ k := List.getElem?_eq_none_iff.1 ht
   rw [List.take_of_length_le hge, List.take_of_length_le (by omega)] at hs
   (repeat (first | ((with_reducible refine VOps.same ?_); (first | (refine VOps.nil ?_; try dsimp only [VThen, VBlock]) | refine VOps.vP (VPure.move rfl rfl) ?_ | refine VOps.vP (VPure.len_map TI.und' rfl rfl) ?_ | refine VOps.vP (VPure.lss rfl rfl rfl) ?_)) | refine VCode.seq ?_ | refine VCode.region rfl ?_))
   refine VCode.cond_f rfl (decide_eq_false (by omega)) ?_
   (repeat (first | ((with_reducible refine VOps.same ?_); (first | (refine VOps.nil ?_; try dsimp only [VThen, VBlock]) | refine VOps.vP (VPure.assign rfl rfl) ?_)) | refine VCode.seq ?_ | refine VCode.region rfl ?_ | refine VCode.exit ?_))
   refine VCode.give hcx rfl rfl rfl rfl rfl ?_
   rw [decide_eq_true hs]
set_option maxHeartbeats 1000000 in
theorem bools_v (a b : List Bool) (ha : a.length ≤ 1000000) : VCalls Try.prog 16 [.sl 1 (a.map encB), .sl 1 (b.map encB)] [] 0 (Gives (.val (.bool (decide (a = b))))) := by
 refine VCalls.enter (n := 26) Try.func16 rfl rfl (by simp) (fun cx hcx => ?_)
 (repeat (first | ((with_reducible refine VOps.same ?_); (first | (refine VOps.nil ?_; try dsimp only [VThen, VBlock]) | refine VOps.vP (VPure.move rfl rfl) ?_ | refine VOps.vP (VPure.assign rfl rfl) ?_ | refine VOps.vP (VPure.len_map TI.und' rfl rfl) ?_ | refine VOps.vP (VPure.nei rfl rfl rfl) ?_)) | refine VCode.seq ?_ | refine VCode.region rfl ?_))
 refine VCode.cond rfl (fun hc => ?_) (fun hc => ?_)
 ·(repeat (first | ((with_reducible refine VOps.same ?_); (first | (refine VOps.nil ?_; try dsimp only [VThen, VBlock]) | refine VOps.vP (VPure.assign rfl rfl) ?_)) | refine VCode.seq ?_ | refine VCode.region rfl ?_))
  refine VCode.give hcx rfl rfl rfl rfl rfl ?_
  simp only [Bool.not_eq_true', decide_eq_false_iff_not] at hc
  have : decide (a = b) = false := decide_eq_false (fun h => hc (by rw [h]))
  rw [this]
 ·simp only [Bool.not_eq_false', decide_eq_true_eq] at hc
  have hlen : a.length = b.length := by omega
  (repeat (first | ((with_reducible refine VOps.same ?_); (first | (refine VOps.nil ?_; try dsimp only [VThen, VBlock]) | refine VOps.vP (VPure.assign rfl rfl) ?_)) | refine VCode.seq ?_ | refine VCode.region rfl ?_ | refine VCode.block ?_ | refine VCode.skip ?_))
  refine VCode.loop (fun m st => ∃ k : Nat, k ≤ a.length ∧ m = a.length - k ∧ a.take k = b.take k ∧ st = ⟨[(5, .val (.int .i64 (k : Int))), (0, .sl 1 (a.map encB)), (1, .sl 1 (b.map encB))], [], 0⟩) a.length ?_ ?_
  ·(refine Less.mk (l := []) hcx ?ss ?hh rfl (by decide) rfl ⟨0, by omega, by omega, by simp, rfl⟩; (case ss => repeat (first | exact SubS.nil | refine SubS.cons rfl rfl ?_ | refine SubS.cons (ciI (by omega)) rfl ?_ | refine SubS.cons (ciB (by assumption)) rfl ?_)); (case hh => repeat (first | exact SubH.nil | refine SubH.cons rfl rfl rfl ?_)))
  rintro m st ⟨k, hk, rfl, hs, rfl⟩
  cases ht : a[k]? with
  | some t =>
   have hlt : k < a.length := (List.getElem?_eq_some_iff.1 ht).1
   obtain ⟨u, hu⟩ : ∃ u, b[k]? = some u := ⟨_, List.getElem?_eq_getElem (by omega)⟩
   have hne : (!(t == u)) = !decide (t = u) := by cases t <;> cases u <;> rfl
   (repeat (first | ((with_reducible refine VOps.same ?_); (first | (refine VOps.nil ?_; try dsimp only [VThen, VBlock]) | refine VOps.vP (VPure.move rfl rfl) ?_ | refine VOps.vP (VPure.len_map TI.und' rfl rfl) ?_ | refine VOps.vP (VPure.lss rfl rfl rfl) ?_)) | refine VCode.seq ?_ | refine VCode.region rfl ?_))
   refine VCode.cond_t rfl (decide_eq_true (by omega)) ?_
   (repeat (first | ((with_reducible refine VOps.same ?_); (first | (refine VOps.nil ?_; try dsimp only [VThen, VBlock]) | refine VOps.vP (VPure.move rfl rfl) ?_ | refine VOps.vP (VPure.idx_map rfl rfl rfl (by assumption)) ?_ | refine VOps.vV (VLoad.el1 rfl rfl rfl (by rfl)) ?_ | refine VOps.vP (VPure.neb TI.und' rfl rfl rfl) ?_)) | refine VCode.seq ?_ | refine VCode.draw [] rfl ?_ | refine VCode.block ?_ | refine VCode.skip ?_))
   refine VCode.cond rfl (fun hb => ?_) (fun hb => ?_)
   ·(repeat (first | ((with_reducible refine VOps.same ?_); (first | (refine VOps.nil ?_; try dsimp only [VThen, VBlock]) | refine VOps.vP (VPure.assign rfl rfl) ?_)) | refine VCode.seq ?_ | refine VCode.region rfl ?_))
    refine VCode.give hcx rfl rfl rfl rfl rfl ?_
    have hb := hne.symm.trans hb
    have hne : t ≠ u := by simpa using hb
    have : decide (a = b) = false := decide_eq_false (fun e => hne (by subst e; rw [ht] at hu; exact Option.some.inj hu))
    rw [this]
   ·have hb := hne.symm.trans hb
    (repeat (first | ((with_reducible refine VOps.same ?_); (first | (refine VOps.nil ?_; try dsimp only [VThen, VBlock]) | refine VOps.vP (VPure.move rfl rfl) ?_ | refine VOps.vP (VPure.assign rfl rfl) ?_ | refine VOps.vP (VPure.addK rfl rfl rfl (by omega)) ?_)) | refine VCode.region rfl ?_ | refine VCode.skip ?_))
    (refine Less.mk (l := []) hcx ?ss ?hh rfl (by decide) rfl ⟨_, ?_, k + 1, by omega, rfl, take_eq hs ht hu (by simpa using hb), rfl⟩; (case ss => repeat (first | exact SubS.nil | refine SubS.cons rfl rfl ?_ | refine SubS.cons (ciI (by omega)) rfl ?_ | refine SubS.cons (ciB (by assumption)) rfl ?_)); (case hh => repeat (first | exact SubH.nil | refine SubH.cons rfl rfl rfl ?_)))
    omega
  | none =>
   have hge : a.length ≤ k := List.getElem?_eq_none_iff.1 ht
   rw [List.take_of_length_le hge, List.take_of_length_le (by omega)] at hs
   (repeat (first | ((with_reducible refine VOps.same ?_); (first | (refine VOps.nil ?_; try dsimp only [VThen, VBlock]) | refine VOps.vP (VPure.move rfl rfl) ?_ | refine VOps.vP (VPure.len_map TI.und' rfl rfl) ?_ | refine VOps.vP (VPure.lss rfl rfl rfl) ?_)) | refine VCode.seq ?_ | refine VCode.region rfl ?_))
   refine VCode.cond_f rfl (decide_eq_false (by omega)) ?_
   (repeat (first | ((with_reducible refine VOps.same ?_); (first | (refine VOps.nil ?_; try dsimp only [VThen, VBlock]) | refine VOps.vP (VPure.assign rfl rfl) ?_)) | refine VCode.seq ?_ | refine VCode.region rfl ?_ | refine VCode.exit ?_))
   refine VCode.give hcx rfl rfl rfl rfl rfl ?_
   rw [decide_eq_true hs]
end Go.Proofs.Ytfjfbapiheehaaa.V
end
section
set_option linter.unusedVariables false
set_option linter.unusedSimpArgs false
namespace Go.Proofs.Ytfjfbapiheehaaa.V
open Go Go.RowKit Go.Proofs.Ytfjfbapiheehaaa.P Go.Proofs.Ytfjfbapiheehaaa.DG
def wtext : ByteArray := ⟨#[83, 32, 61, 32, 83, 32, 39, 97, 39, 32, 124, 32, 65, 32, 59, 32, 65, 32, 61, 32, 66, 32, 59, 32, 66, 32, 61, 32, 65, 32, 39, 98, 39, 32, 124, 32, 59]⟩
def wtoks : List Tok := [⟨1, ⟨#[83]⟩, 0⟩, ⟨3, ⟨#[61]⟩, 2⟩, ⟨1, ⟨#[83]⟩, 4⟩, ⟨2, ⟨#[97]⟩, 6⟩, ⟨4, ⟨#[124]⟩, 10⟩, ⟨1, ⟨#[65]⟩, 12⟩, ⟨5, ⟨#[59]⟩, 14⟩, ⟨1, ⟨#[65]⟩, 16⟩, ⟨3, ⟨#[61]⟩, 18⟩, ⟨1, ⟨#[66]⟩, 20⟩, ⟨5, ⟨#[59]⟩, 22⟩, ⟨1, ⟨#[66]⟩, 24⟩, ⟨3, ⟨#[61]⟩, 26⟩, ⟨1, ⟨#[65]⟩, 28⟩, ⟨2, ⟨#[98]⟩, 30⟩, ⟨4, ⟨#[124]⟩, 34⟩, ⟨5, ⟨#[59]⟩, 36⟩]
def walts : List Alt := [⟨⟨1, ⟨#[83]⟩, 0⟩, [⟨1, ⟨#[83]⟩, 4⟩, ⟨2, ⟨#[97]⟩, 6⟩]⟩, ⟨⟨1, ⟨#[83]⟩, 0⟩, [⟨1, ⟨#[65]⟩, 12⟩]⟩, ⟨⟨1, ⟨#[65]⟩, 16⟩, [⟨1, ⟨#[66]⟩, 20⟩]⟩, ⟨⟨1, ⟨#[66]⟩, 24⟩, [⟨1, ⟨#[65]⟩, 28⟩, ⟨2, ⟨#[98]⟩, 30⟩]⟩, ⟨⟨1, ⟨#[66]⟩, 24⟩, []⟩]
def wg : Gr := ⟨[⟨#[97]⟩, ⟨#[98]⟩], [⟨#[83]⟩, ⟨#[65]⟩, ⟨#[66]⟩], [⟨2, [2, 0]⟩, ⟨2, [3]⟩, ⟨3, [4]⟩, ⟨4, [3, 1]⟩, ⟨4, []⟩]⟩
theorem w_lex : lex_Tokens.f wtext = some (wtoks, 0, 0) := by kernel_rfl
theorem w_alts : read_Alts.f wtoks 37 = some (walts, 0, 0) := by kernel_rfl
theorem w_g : ofG walts = wg := by kernel_rfl
theorem of_w : VCalls Try.prog 34 [.val (.string wtext)] [] 0 (Gives (.tup [gV wg, fV 0 0])) :=
 of_at (by decide +kernel) w_lex (by decide +kernel) w_alts (by decide +kernel) (by kernel_rfl) (by decide +kernel) (by decide +kernel) (by kernel_rfl) w_g
theorem w_good : GoodG wg := good_of (by kernel_rfl)
theorem w_sized : Sized wg := (small_sized (show largeG wg = false by kernel_rfl)).1
theorem w_comps : comps wg [] = [0, 1, 1] := by rw [comps_C w_good]; kernel_rfl
theorem w_inner : innerS wg [] = [(0, 0), (2, 0), (3, 0)] := by rw [inner_C w_good]; kernel_rfl
theorem w_inner2 : innerS wg [(2, 0)] = [(0, 0)] := by rw [inner_C w_good]; kernel_rfl
theorem w_on : onOf wg [] = [[true, true, true], [false, true, true], [false, true, true]] := by rw [on_C w_good]; kernel_rfl
theorem w_spots : spots wg = [(0, 0), (1, 0), (2, 0), (3, 0)] := by rw [spots_C w_good]; kernel_rfl
set_option maxHeartbeats 4000000 in
theorem wakes_v : VCalls Try.prog 12 [] [] 0 (Gives (.val (.bool true))) := by
 refine VCalls.enterD (n := 88) Try.func12 rfl rfl (by simp) rfl (fun cx hcx => ?_)
 (repeat (first | ((with_reducible refine VOps.same ?_); (first | (refine VOps.nil ?_; try dsimp only [VThen, VBlock]) | refine VOps.vP (VPure.assign rfl rfl) ?_)) | refine VCode.seq ?_ | refine VCode.region rfl ?_))
 refine VOps.gives rfl Try.func34 rfl (by kernel_rfl) rfl rfl rfl rfl rfl rfl rfl rfl (of_w) ?_
 (repeat (first | ((with_reducible refine VOps.same ?_); (first | (refine VOps.nil ?_; try dsimp only [VThen, VBlock]) | refine VOps.vP (VPure.move rfl rfl) ?_ | refine VOps.vP (VPure.extract rfl rfl rfl) ?_ | refine VOps.vV (VLoad.boxA rfl rfl rfl (by rfl) (leR (by rfl)) (by decide)) ?_ | refine VOps.alloc rfl rfl (by kernel_rfl) rfl (by kernel_rfl) rfl ?_ | refine VOps.store rfl rfl (by kernel_rfl) rfl rfl rfl rfl rfl rfl (leR (by rfl)) rfl ?_)) | refine VCode.seq ?_ | refine VCode.region rfl ?_))
 refine VOps.gives rfl Try.func21 rfl (by kernel_rfl) rfl rfl rfl rfl rfl rfl rfl rfl (by have := nil2 (comps_v wg [] w_sized (by decide)); rw [w_comps] at this; exact this) ?_
 (repeat (first | ((with_reducible refine VOps.same ?_); (first | (refine VOps.nil ?_; try dsimp only [VThen, VBlock]) | refine VOps.vP (VPure.assign rfl rfl) ?_ | refine VOps.vV (VLoad.boxA rfl rfl rfl (by rfl) (leR (by rfl)) (by decide)) ?_)) | refine VCode.seq ?_ | refine VCode.region rfl ?_))
 refine VOps.gives rfl Try.func23 rfl (by kernel_rfl) rfl rfl rfl rfl rfl rfl rfl rfl (by have := nil2 (inner_v wg [] w_sized (by decide)); rw [w_inner] at this; exact this) ?_
 (repeat (first | ((with_reducible refine VOps.same ?_); (first | (refine VOps.nil ?_; try dsimp only [VThen, VBlock]) | refine VOps.vP (VPure.assign rfl rfl) ?_ | refine VOps.vV (VLoad.boxA rfl rfl rfl (by rfl) (leR (by rfl)) (by decide)) ?_ | refine VOps.vP (VPure.buildC rfl (by kernel_rfl) rfl (by rfl)) ?_ | refine VOps.one rfl rfl (by kernel_rfl) rfl (by rfl) (by decide) (by decide) rfl (by rfl) (by rfl) ?_)) | refine VCode.seq ?_ | refine VCode.region rfl ?_))
 refine VOps.freeze (id := 2) rfl ?_
 refine VOps.gives rfl Try.func23 rfl (by kernel_rfl) rfl rfl rfl rfl rfl rfl rfl rfl (by have := inner_v wg [(2, 0)] w_sized (by decide); rw [w_inner2] at this; exact this) ?_
 (repeat (first | ((with_reducible refine VOps.same ?_); (first | (refine VOps.nil ?_; try dsimp only [VThen, VBlock]) | refine VOps.vP (VPure.assign rfl rfl) ?_ | refine VOps.vV (VLoad.boxA rfl rfl rfl (by rfl) (leR (by rfl)) (by decide)) ?_)) | refine VCode.seq ?_ | refine VCode.region rfl ?_))
 refine VOps.gives rfl Try.func14 rfl (by kernel_rfl) rfl rfl rfl rfl rfl rfl rfl rfl (by have := nil2 (on_v wg [] w_sized (by decide)); rw [w_on] at this; exact this) ?_
 (repeat (first | ((with_reducible refine VOps.same ?_); (first | (refine VOps.nil ?_; try dsimp only [VThen, VBlock]) | refine VOps.vP (VPure.move rfl rfl) ?_ | refine VOps.vP (VPure.assign rfl rfl) ?_ | refine VOps.vP (VPure.len_map TI.und' rfl rfl) ?_ | (refine VOps.vP (VPure.idx_sl rfl rfl rfl ?b1 ?b2) ?_; (case b1 => (first | omega | (simp only [List.length_map, List.length_append, List.length_cons, List.length_nil] at *; omega) | (simp; omega))); (case b2 => (first | omega | (simp only [List.length_map, List.length_append, List.length_cons, List.length_nil] at *; omega) | (simp; omega)))) | refine VOps.vP (VPure.field_ptr rfl rfl rfl) ?_ | refine VOps.vV (VLoad.el1 rfl rfl rfl (by rfl)) ?_ | refine VOps.vV (VLoad.box1 rfl rfl rfl rfl (by rfl) (by decide)) ?_ | refine VOps.vP (VPure.nei rfl rfl rfl) ?_ | refine VOps.vP (VPure.pick_f rfl rfl rfl) ?_)) | refine VCode.seq ?_ | refine VCode.region rfl ?_))
 refine VCode.cond_f rfl rfl ?_
 (repeat (first | ((with_reducible refine VOps.same ?_); (first | refine VOps.vP (VPure.move rfl rfl) ?_)) | refine VCode.seq ?_ | refine VCode.region rfl ?_ | refine VCode.skip ?_))
 refine VOps.lit (rows := [encN 0, encN 1, encN 1]) rfl rfl (by kernel_rfl) rfl (by kernel_rfl) (by rfl) (by decide) (by decide) rfl (by rfl) (by rfl) (by rfl) (by rfl) ?_
 refine VOps.pure rfl Try.func20 rfl (by kernel_rfl) rfl rfl rfl rfl rfl rfl rfl (ints_v [0, 1, 1] [0, 1, 1] (by decide)) ?_
 (repeat (first | ((with_reducible refine VOps.same ?_); (first | refine VOps.vP (VPure.move rfl rfl) ?_ | refine VOps.vP (VPure.buildC rfl (by kernel_rfl) rfl (by rfl)) ?_))))
 refine VOps.lit (rows := [encP (0, 0), encP (2, 0), encP (3, 0)]) rfl rfl (by kernel_rfl) rfl (by kernel_rfl) (by rfl) (by decide) (by decide) rfl (by rfl) (by rfl) (by rfl) (by rfl) ?_
 refine VOps.pure rfl Try.func17 rfl (by kernel_rfl) rfl rfl rfl rfl rfl rfl rfl (spots_v [(0, 0), (2, 0), (3, 0)] [(0, 0), (2, 0), (3, 0)] (by decide)) ?_
 (repeat (first | ((with_reducible refine VOps.same ?_); (first | refine VOps.vP (VPure.move rfl rfl) ?_ | refine VOps.vP (VPure.pick_t rfl rfl rfl) ?_ | refine VOps.vP (VPure.buildC rfl (by kernel_rfl) rfl (by rfl)) ?_ | refine VOps.one rfl rfl (by kernel_rfl) rfl (by rfl) (by decide) (by decide) rfl (by rfl) (by rfl) ?_))))
 refine VOps.pure rfl Try.func17 rfl (by kernel_rfl) rfl rfl rfl rfl rfl rfl rfl (spots_v [(0, 0)] [(0, 0)] (by decide)) ?_
 (repeat (first | ((with_reducible refine VOps.same ?_); (first | refine VOps.vP (VPure.move rfl rfl) ?_ | refine VOps.vV (VLoad.boxA rfl rfl rfl (by rfl) (leR (by rfl)) (by decide)) ?_ | refine VOps.vP (VPure.pick_t rfl rfl rfl) ?_))))
 (refine VOps.callL (ch := []) [] rfl Try.func18 rfl (by kernel_rfl) rfl rfl rfl rfl ?hh (by decide) rfl rfl rfl (by have := spots_o wg w_sized; rw [w_spots] at this; exact this) rfl (by rfl) rfl ?_; (case hh => repeat (first | exact SubH.nil | refine SubH.cons rfl rfl rfl ?_)))
 (repeat (first | ((with_reducible refine VOps.same ?_); (first | (refine VOps.nil ?_; try dsimp only [VThen, VBlock]) | refine VOps.vP (VPure.move rfl rfl) ?_ | refine VOps.vP (VPure.assign rfl rfl) ?_ | refine VOps.vP (VPure.len_arr TI.und' rfl rfl rfl) ?_ | (refine VOps.vP (VPure.idx_sl rfl rfl rfl ?b1 ?b2) ?_; (case b1 => (first | omega | (simp only [List.length_map, List.length_append, List.length_cons, List.length_nil] at *; omega) | (simp; omega))); (case b2 => (first | omega | (simp only [List.length_map, List.length_append, List.length_cons, List.length_nil] at *; omega) | (simp; omega)))) | refine VOps.vV (VLoad.el1 rfl rfl rfl (by rfl)) ?_ | refine VOps.vP (VPure.eqi rfl rfl rfl) ?_ | refine VOps.vP (VPure.not rfl rfl) ?_ | refine VOps.vP (VPure.pick_t rfl rfl rfl) ?_))))
 refine VCode.retD rfl rfl (.tmp rfl .nil) ?_
 rfl
end Go.Proofs.Ytfjfbapiheehaaa.V
end
section
set_option linter.unusedVariables false
set_option linter.unusedSimpArgs false
namespace Go.Proofs.Ytfjfbapiheehaaa.V
open Go Go.RowKit Go.Proofs.Ytfjfbapiheehaaa.DG
section
variable {H : Type} {enc : TypeId × Value → H} {w : World} {spare : Nat → Bool} {held : Bool}
def goodSs (l : List ByteArray) : Prop := (∀ a ∈ l, a.size ≤ reachBytes) ∧ l.length * 16 ≤ reachBytes
theorem open_strs : OpensD enc Try.prog w 0 spare held (fun l : List ByteArray => [.sl 1 (l.map encS)]) 22 goodSs :=
 opensD_slice TI.und' (by kernel_rfl) (by kernel_rfl) (by kernel_rfl) (by decide) (opensD_string TI.und' (by kernel_rfl))
theorem open_i64 : OpensD enc Try.prog w 0 spare held (fun n : Int => [.val (.int .i64 n)]) 3 (fun n => (Lit.int .i64 n).wf = true) := opensD_int TI.und' (by kernel_rfl)
def goodIs (l : List Int) : Prop := (∀ a ∈ l, (Lit.int .i64 a).wf = true) ∧ l.length * 8 ≤ reachBytes
theorem open_ints : OpensD enc Try.prog w 0 spare held (fun l : List Int => [.sl 1 (l.map encI)]) 37 goodIs :=
 opensD_slice TI.und' (by kernel_rfl) (by kernel_rfl) (by kernel_rfl) (by decide) open_i64
def goodRu (r : Ru) : Prop := (Lit.int .i64 r.left).wf = true ∧ goodIs r.right ∧ True
theorem open_rule : OpensD enc Try.prog w 0 spare held encR 46 goodRu :=
 opensD_struct (good := fun p : Int × List Int × Unit => (Lit.int .i64 p.1).wf = true ∧ goodIs p.2.1 ∧ True) (f := fun p : Int × List Int × Unit => [.val (.int .i64 p.1)] ++ ([.sl 1 (p.2.1.map encI)] ++ [])) (g := fun r : Ru => (r.left, r.right, ())) (fun p => ⟨p.1, p.2.1⟩) (fun _ => rfl) (ti46).und (by kernel_rfl)
  (opensF_cons (m := 1) (f := fun n : Int => [.val (.int .i64 n)]) (f' := fun p : List Int × Unit => [.sl 1 (p.1.map encI)] ++ []) (good := fun n : Int => (Lit.int .i64 n).wf = true) (good' := fun p : List Int × Unit => goodIs p.1 ∧ True) rfl (by kernel_rfl) open_i64 (opensF_cons (m := 1) (f := fun l : List Int => [.sl 1 (l.map encI)]) (f' := fun _ : Unit => []) (good := goodIs) (good' := fun _ => True) rfl (by kernel_rfl) open_ints opensF_nil))
def goodRs (l : List Ru) : Prop := (∀ a ∈ l, goodRu a) ∧ l.length * 32 ≤ reachBytes
theorem open_rules : OpensD enc Try.prog w 0 spare held (fun l : List Ru => [.sl 2 (l.map encR)]) 23 goodRs :=
 opensD_slice TI.und' (by kernel_rfl) (by kernel_rfl) (by kernel_rfl) (by decide) open_rule
def encG (g : Gr) : List D := [.sl 1 (g.terms.map encS), .sl 1 (g.names.map encS), .sl 2 (g.rules.map encR)]
def goodGr (g : Gr) : Prop := goodSs g.terms ∧ goodSs g.names ∧ goodRs g.rules ∧ True
theorem open_gr : OpensD enc Try.prog w 0 spare held encG 25 goodGr :=
 opensD_struct (good := fun p : List ByteArray × List ByteArray × List Ru × Unit => goodSs p.1 ∧ goodSs p.2.1 ∧ goodRs p.2.2.1 ∧ True) (f := fun p : List ByteArray × List ByteArray × List Ru × Unit => [.sl 1 (p.1.map encS)] ++ ([.sl 1 (p.2.1.map encS)] ++ ([.sl 2 (p.2.2.1.map encR)] ++ []))) (g := fun g : Gr => (g.terms, g.names, g.rules, ())) (fun p => ⟨p.1, p.2.1, p.2.2.1⟩) (fun _ => rfl) (ti25).und (by kernel_rfl)
  (opensF_cons (m := 1) (f := fun l : List ByteArray => [.sl 1 (l.map encS)]) (f' := fun p : List ByteArray × List Ru × Unit => [.sl 1 (p.1.map encS)] ++ ([.sl 2 (p.2.1.map encR)] ++ [])) (good := goodSs) (good' := fun p : List ByteArray × List Ru × Unit => goodSs p.1 ∧ goodRs p.2.1 ∧ True) rfl (by kernel_rfl) open_strs
   (opensF_cons (m := 1) (f := fun l : List ByteArray => [.sl 1 (l.map encS)]) (f' := fun p : List Ru × Unit => [.sl 2 (p.1.map encR)] ++ []) (good := goodSs) (good' := fun p : List Ru × Unit => goodRs p.1 ∧ True) rfl (by kernel_rfl) open_strs
    (opensF_cons (m := 1) (f := fun l : List Ru => [.sl 2 (l.map encR)]) (f' := fun _ : Unit => []) (good := goodRs) (good' := fun _ => True) rfl (by kernel_rfl) open_rules opensF_nil)))
def goodSp (e : Spot) : Prop := (Lit.int .i64 e.1).wf = true ∧ (Lit.int .i64 e.2).wf = true ∧ True
theorem open_spot : OpensD enc Try.prog w 0 spare held encP 44 goodSp :=
 opensD_struct (good := fun p : Int × Int × Unit => (Lit.int .i64 p.1).wf = true ∧ (Lit.int .i64 p.2.1).wf = true ∧ True) (f := fun p : Int × Int × Unit => [.val (.int .i64 p.1)] ++ ([.val (.int .i64 p.2.1)] ++ [])) (g := fun e : Spot => (e.1, e.2, ())) (fun p => (p.1, p.2.1)) (fun _ => rfl) (ti44).und (by kernel_rfl)
  (opensF_cons (m := 1) (f := fun n : Int => [.val (.int .i64 n)]) (f' := fun p : Int × Unit => [.val (.int .i64 p.1)] ++ []) (good := fun n : Int => (Lit.int .i64 n).wf = true) (good' := fun p : Int × Unit => (Lit.int .i64 p.1).wf = true ∧ True) rfl (by kernel_rfl) open_i64 (opensF_cons (m := 1) (f := fun n : Int => [.val (.int .i64 n)]) (f' := fun _ : Unit => []) (good := fun n : Int => (Lit.int .i64 n).wf = true) (good' := fun _ => True) rfl (by kernel_rfl) open_i64 opensF_nil))
def goodSps (l : List Spot) : Prop := (∀ a ∈ l, goodSp a) ∧ l.length * 16 ≤ reachBytes
theorem open_spots : OpensD enc Try.prog w 0 spare held (fun l : List Spot => [.sl 2 (l.map encP)]) 26 goodSps :=
 opensD_slice TI.und' (by kernel_rfl) (by kernel_rfl) (by kernel_rfl) (by decide) open_spot
end
def Same (g : Gr) (w : List Spot) (a b : Nat) : Prop := a = b ∨ (Hang g w a b ∧ Hang g w b a)
theorem Same.symm {g : Gr} {w : List Spot} {a b : Nat} (h : Same g w a b) : Same g w b a := by
 rcases h with h | h
 ·exact .inl h.symm
 ·exact .inr ⟨h.2, h.1⟩
theorem Same.trans {g : Gr} {w : List Spot} {a b c : Nat} (h : Same g w a b) (k : Same g w b c) : Same g w a c := by
 rcases h with rfl | h
 ·exact k
 ·rcases k with rfl | k
  ·exact .inr h
  ·exact .inr ⟨h.1.trans k.1, k.2.trans h.2⟩
end Go.Proofs.Ytfjfbapiheehaaa.V
end
section
set_option linter.unusedVariables false
set_option linter.unusedSimpArgs false
namespace Go.Proofs.Ytfjfbapiheehaaa.V
open Go Go.RowKit Go.Proofs.Ytfjfbapiheehaaa.DG
section
variable {P : Program} {n : Nat} {cx : Cx} {ops : Array Oper} {K : St → Prop} {E : List PanicEntry → St → Prop} {dl pl : List (Nat × Oper)} {ph : Bool} {m : List Nat} {s : List (Nat × V)} {h : Heap} {x : Nat}
theorem VAny.says {d : Nat} {v u : V} (hd : lk s d = some u) (e : u = v) (H : VAny P n cx ph m ops K E dl pl ⟨(d, v) :: s, h, x⟩) : VAny P n cx ph m ops K E dl pl ⟨s, h, x⟩ := fun hn hp g a w r =>
 H hn hp g a w (r.same (over_same (by rw [hd, e])))
end
end Go.Proofs.Ytfjfbapiheehaaa.V
end
section
set_option linter.unusedVariables false
set_option linter.unusedSimpArgs false
namespace Go.Proofs.Ytfjfbapiheehaaa.V
open Go Go.RowKit Go.Proofs.Ytfjfbapiheehaaa.DG
section
variable {P : Program} {n : Nat} {cx : Cx} {st : St} {ops : Array Oper} {K : St → Prop} {E : List PanicEntry → St → Prop} {m : List Nat} {dl pl : List (Nat × Oper)}
theorem VAny.frz {id : Nat} {t : TypeId} {sz : Nat} (xs : List (List D)) (hh : lk st.h id = some (.arr t sz xs)) (h : VAny P n cx false m ops K E dl pl ⟨frzS id sz xs st.s, frzH id sz xs st.h, st.x⟩) : VAny P n cx false m ops K E dl pl st :=
 fun hn hp g a w r b hb => h hn hp g a w (r.frz hh) b ⟨hb.s, hb.x, fun i v k hi h1 h2 => hb.m i v k hi (by
  rw [gv_frz] at h1
  split at h1
  ·cases h1
  ·exact h1) h2⟩
end
section
variable {P : Program} {n : Nat} {cx : Cx} {Q : VExit → St → Prop} {st : St}
theorem VCode.inTo {x y : Code} {id : Nat} (st' : St) (h : VCode P n cx x (VThen (Less cx fun st => st = st') (VBlock id (VThen (fun st => VCode P n cx y Q st) Q))) st) (h2 : VCode P n cx y Q st') : VCode P n cx x (VBlock id (VThen (fun st => VCode P n cx y Q st) Q)) st :=
 h.mono fun e s hq => by
  cases e with
  | normal => exact VCode.less (let ⟨l, s', a, b, c, d⟩ := hq; ⟨l, s', a, b, c, d ▸ h2⟩)
  | exit id => exact hq
  | ret => exact hq
  | panic c => exact hq
end
section
variable {P : Program} {n : Nat} {cx : Cx} {ops : Array Oper} {K : St → Prop} {E : List PanicEntry → St → Prop} {i : Nat} {o : Oper} {dl pl pend q : List (Nat × Oper)} {m : List Nat} {s : List (Nat × V)} {h : Heap} {x dd : Nat}
theorem VMv.store_arrm {α : Type} {f : α → List D} {xs ys : List α} {u u' : α} {t e' : TypeId} {p y : Operand} {id pos k j sz : Nat} {ds : List D} {v : V} {d : TypeDesc} {sz' b : Nat} {z : Value} (he : cutAt i pend = some (o, dl, pl, q)) (ho : o.op = .store t p y) (hw : wantedV ops o s = some true) (hm : ([id].all fun k => m.contains k) = true) (hd : o.dst = none) (hp : ev s p = some (.ael id pos)) (hx : ev s y = some v) (hh : lk h id = some (.arr e' sz (xs.map f))) (hpos : pos = k * sz + j) (hrow : xs[k]? = some u) [ht : TI P t d sz' b z]
  (hds : toDs (flat v) = some ds) (hl : (flat v).length = sz') (hin : j + sz' ≤ sz) (hu' : splice (f u) j ds = f u') (hys : xs.set k u' = ys)
  (h2 : VAny P n cx false m ops K E [] q ⟨s, (id, .arr e' sz (ys.map f)) :: h, x⟩) : VMv P n cx m ops K E pend i ⟨s, h, x⟩ :=
 VMv.mk he hm hw (VOp.store_arr ho hp hx hh hpos (by rw [List.getElem?_map, hrow]; rfl) hds hl hin) (by rintro v' h' x' ⟨rfl, rfl, rfl⟩; rw [hd, hu', ← List.map_set, hys]; exact h2)
end
set_option maxHeartbeats 8000000 in
theorem own_o (g : Gr) (hg : Sized g) : VCalls Try.prog 13 [gV g] [] 0 (Leaves (.agg [.sl 1 (g.terms.map encS), .sl 1 (g.names.map encS), .ref 0]) [(0, .arr 46 2 (g.rules.map encR)), (1, .cells 25 [.sl 1 (g.terms.map encS), .sl 1 (g.names.map encS), .ref 0])] 2) := by
 have ht := hg.terms
 have hn := hg.names
 have hr := hg.rules
 refine VCalls.enterL (n := 42) Try.func13 rfl rfl (by simp) (fun cx hcx => ?_)
 (repeat (first | ((with_reducible refine VOps.same ?_); (first | (refine VOps.nil ?_; try dsimp only [VThen, VBlock]) | refine VOps.alloc rfl rfl (by kernel_rfl) rfl (by kernel_rfl) rfl ?_ | refine VOps.box rfl rfl (by kernel_rfl) rfl rfl rfl rfl ?_)) | refine VCode.seq ?_ | refine VCode.region rfl ?_))
 refine VCode.thenTo ⟨[(1, .ptr 0 0), (2, .ptr 1 0), (3, .ptr 2 0)], [(0, gO g), (1, .cells 25 [.val (.slice none 0 0), .val (.slice none 0 0), .val (.slice none 0 0)]), (2, .cells 25 [.sl 1 (g.terms.map encS), .sl 1 (g.names.map encS), .val (.slice none 0 0)])], 3⟩ ?_ ?_
 ·refine VCode.drawAny [2, 3, 4, 5, 6] (by kernel_rfl) rfl ?_
  refine VAny.pureI (i := 1) rfl rfl (by kernel_rfl) rfl (VPure.field_ptr rfl rfl rfl) ?_
  refine VAny.loadI (i := 2) rfl rfl (by kernel_rfl) rfl (VLoad.box1 rfl rfl rfl rfl (by rfl) (by decide)) ?_
  refine VAny.pureI (i := 5) rfl rfl (by kernel_rfl) rfl (VPure.field_ptr rfl rfl rfl) ?_
  refine VAny.loadI (i := 6) rfl rfl (by kernel_rfl) rfl (VLoad.box1 rfl rfl rfl rfl (by rfl) (by decide)) ?_
  refine VAny.movesI (is := [0, 4, 9]) (by kernel_rfl) (by simp) rfl (allC ?_ (allC ?_ (all1 ?_)))
  ·refine VMv.lit (rows := []) rfl rfl rfl rfl (by kernel_rfl) (by rfl) (by decide) (by decide) rfl (by rfl) (by rfl) (by rfl) (by rfl) ?_
   refine VAny.movesI (is := [3, 4, 9]) (by kernel_rfl) (by simp) rfl (allC ?_ (allC ?_ (all1 ?_)))
   ·refine VMv.append (zs := g.terms.map encS) rfl rfl rfl rfl (by rfl) (by decide) rfl (.arr rfl) rfl rfl (.sl) (by simp only [List.length_append, List.length_cons, List.length_nil, List.length_map]; unfold most; omega) (by simp only [List.length_append, List.length_cons, List.length_nil, List.length_map]; unfold most; omega) rfl ( by simp) ?_
    refine VAny.frz (id := 3) (g.terms.map encS) rfl ?_
    refine VAny.movesI (is := [4, 9]) (by kernel_rfl) (by simp) rfl (allC ?_ (all1 ?_))
    ·refine VMv.lit (rows := []) rfl rfl rfl rfl (by kernel_rfl) (by rfl) (by decide) (by decide) rfl (by rfl) (by rfl) (by rfl) (by rfl) ?_
     refine VAny.movesI (is := [7, 9]) (by kernel_rfl) (by simp) rfl (allC ?_ (all1 ?_))
     ·refine VMv.append (zs := g.names.map encS) rfl rfl rfl rfl (by rfl) (by decide) rfl (.arr rfl) rfl rfl (.sl) (by simp only [List.length_append, List.length_cons, List.length_nil, List.length_map]; unfold most; omega) (by simp only [List.length_append, List.length_cons, List.length_nil, List.length_map]; unfold most; omega) rfl ( by simp) ?_
      refine VAny.frz (id := 5) (g.names.map encS) rfl ?_
      refine VAny.pureI (i := 8) rfl rfl (by kernel_rfl) rfl (VPure.buildC rfl (by kernel_rfl) rfl (by rfl)) ?_
      refine VAny.movesI (is := [9]) (by kernel_rfl) (by simp) rfl (all1 ?_)
      ·refine VMv.alloc rfl rfl rfl rfl (by kernel_rfl) rfl ?_
       refine VAny.movesI (is := [10]) (by kernel_rfl) (by simp) rfl (all1 ?_)
       ·refine VMv.store rfl rfl rfl (by rfl) rfl rfl rfl rfl rfl rfl (leR (by rfl)) rfl ?_
        refine VAny.done ?_
        (refine Less.mk (l := [0, 1, 6]) hcx ?ss ?hh rfl (by decide) rfl rfl; (case ss => repeat (first | exact SubS.nil | refine SubS.cons rfl rfl ?_ | refine SubS.cons (ciI (by omega)) rfl ?_ | refine SubS.cons (ciB (by assumption)) rfl ?_)); (case hh => repeat (first | exact SubH.nil | refine SubH.cons rfl rfl rfl ?_)))
     ·refine VMv.alloc rfl rfl rfl rfl (by kernel_rfl) rfl ?_
      refine VAny.movesI (is := [7]) (by kernel_rfl) (by simp) rfl (all1 ?_)
      ·refine VMv.append (zs := g.names.map encS) rfl rfl rfl rfl (by rfl) (by decide) rfl (.arr rfl) rfl rfl (.sl) (by simp only [List.length_append, List.length_cons, List.length_nil, List.length_map]; unfold most; omega) (by simp only [List.length_append, List.length_cons, List.length_nil, List.length_map]; unfold most; omega) rfl ( by simp) ?_
       refine VAny.frz (id := 6) (g.names.map encS) rfl ?_
       refine VAny.pureI (i := 8) rfl rfl (by kernel_rfl) rfl (VPure.buildC rfl (by kernel_rfl) rfl (by rfl)) ?_
       refine VAny.movesI (is := [10]) (by kernel_rfl) (by simp) rfl (all1 ?_)
       ·refine VMv.store rfl rfl rfl (by rfl) rfl rfl rfl rfl rfl rfl (leR (by rfl)) rfl ?_
        refine VAny.done ?_
        (refine Less.mk (l := [0, 1, 5]) hcx ?ss ?hh rfl (by decide) rfl rfl; (case ss => repeat (first | exact SubS.nil | refine SubS.cons rfl rfl ?_ | refine SubS.cons (ciI (by omega)) rfl ?_ | refine SubS.cons (ciB (by assumption)) rfl ?_)); (case hh => repeat (first | exact SubH.nil | refine SubH.cons rfl rfl rfl ?_)))
    ·refine VMv.alloc rfl rfl rfl rfl (by kernel_rfl) rfl ?_
     refine VAny.movesI (is := [4]) (by kernel_rfl) (by simp) rfl (all1 ?_)
     ·refine VMv.lit (rows := []) rfl rfl rfl rfl (by kernel_rfl) (by rfl) (by decide) (by decide) rfl (by rfl) (by rfl) (by rfl) (by rfl) ?_
      refine VAny.movesI (is := [7]) (by kernel_rfl) (by simp) rfl (all1 ?_)
      ·refine VMv.append (zs := g.names.map encS) rfl rfl rfl rfl (by rfl) (by decide) rfl (.arr rfl) rfl rfl (.sl) (by simp only [List.length_append, List.length_cons, List.length_nil, List.length_map]; unfold most; omega) (by simp only [List.length_append, List.length_cons, List.length_nil, List.length_map]; unfold most; omega) rfl ( by simp) ?_
       refine VAny.frz (id := 6) (g.names.map encS) rfl ?_
       refine VAny.pureI (i := 8) rfl rfl (by kernel_rfl) rfl (VPure.buildC rfl (by kernel_rfl) rfl (by rfl)) ?_
       refine VAny.movesI (is := [10]) (by kernel_rfl) (by simp) rfl (all1 ?_)
       ·refine VMv.store rfl rfl rfl (by rfl) rfl rfl rfl rfl rfl rfl (leR (by rfl)) rfl ?_
        refine VAny.done ?_
        (refine Less.mk (l := [0, 1, 4]) hcx ?ss ?hh rfl (by decide) rfl rfl; (case ss => repeat (first | exact SubS.nil | refine SubS.cons rfl rfl ?_ | refine SubS.cons (ciI (by omega)) rfl ?_ | refine SubS.cons (ciB (by assumption)) rfl ?_)); (case hh => repeat (first | exact SubH.nil | refine SubH.cons rfl rfl rfl ?_)))
   ·refine VMv.lit (rows := []) rfl rfl rfl rfl (by kernel_rfl) (by rfl) (by decide) (by decide) rfl (by rfl) (by rfl) (by rfl) (by rfl) ?_
    refine VAny.movesI (is := [3, 9]) (by kernel_rfl) (by simp) rfl (allC ?_ (all1 ?_))
    ·refine VMv.append (zs := g.terms.map encS) rfl rfl rfl rfl (by rfl) (by decide) rfl (.arr rfl) rfl rfl (.sl) (by simp only [List.length_append, List.length_cons, List.length_nil, List.length_map]; unfold most; omega) (by simp only [List.length_append, List.length_cons, List.length_nil, List.length_map]; unfold most; omega) rfl ( by simp) ?_
     refine VAny.frz (id := 4) (g.terms.map encS) rfl ?_
     refine VAny.movesI (is := [7, 9]) (by kernel_rfl) (by simp) rfl (allC ?_ (all1 ?_))
     ·refine VMv.append (zs := g.names.map encS) rfl rfl rfl rfl (by rfl) (by decide) rfl (.arr rfl) rfl rfl (.sl) (by simp only [List.length_append, List.length_cons, List.length_nil, List.length_map]; unfold most; omega) (by simp only [List.length_append, List.length_cons, List.length_nil, List.length_map]; unfold most; omega) rfl ( by simp) ?_
      refine VAny.frz (id := 5) (g.names.map encS) rfl ?_
      refine VAny.pureI (i := 8) rfl rfl (by kernel_rfl) rfl (VPure.buildC rfl (by kernel_rfl) rfl (by rfl)) ?_
      refine VAny.movesI (is := [9]) (by kernel_rfl) (by simp) rfl (all1 ?_)
      ·refine VMv.alloc rfl rfl rfl rfl (by kernel_rfl) rfl ?_
       refine VAny.movesI (is := [10]) (by kernel_rfl) (by simp) rfl (all1 ?_)
       ·refine VMv.store rfl rfl rfl (by rfl) rfl rfl rfl rfl rfl rfl (leR (by rfl)) rfl ?_
        refine VAny.done ?_
        (refine Less.mk (l := [0, 1, 6]) hcx ?ss ?hh rfl (by decide) rfl rfl; (case ss => repeat (first | exact SubS.nil | refine SubS.cons rfl rfl ?_ | refine SubS.cons (ciI (by omega)) rfl ?_ | refine SubS.cons (ciB (by assumption)) rfl ?_)); (case hh => repeat (first | exact SubH.nil | refine SubH.cons rfl rfl rfl ?_)))
     ·refine VMv.alloc rfl rfl rfl rfl (by kernel_rfl) rfl ?_
      refine VAny.movesI (is := [7]) (by kernel_rfl) (by simp) rfl (all1 ?_)
      ·refine VMv.append (zs := g.names.map encS) rfl rfl rfl rfl (by rfl) (by decide) rfl (.arr rfl) rfl rfl (.sl) (by simp only [List.length_append, List.length_cons, List.length_nil, List.length_map]; unfold most; omega) (by simp only [List.length_append, List.length_cons, List.length_nil, List.length_map]; unfold most; omega) rfl ( by simp) ?_
       refine VAny.frz (id := 6) (g.names.map encS) rfl ?_
       refine VAny.pureI (i := 8) rfl rfl (by kernel_rfl) rfl (VPure.buildC rfl (by kernel_rfl) rfl (by rfl)) ?_
       refine VAny.movesI (is := [10]) (by kernel_rfl) (by simp) rfl (all1 ?_)
       ·refine VMv.store rfl rfl rfl (by rfl) rfl rfl rfl rfl rfl rfl (leR (by rfl)) rfl ?_
        refine VAny.done ?_
        (refine Less.mk (l := [0, 1, 5]) hcx ?ss ?hh rfl (by decide) rfl rfl; (case ss => repeat (first | exact SubS.nil | refine SubS.cons rfl rfl ?_ | refine SubS.cons (ciI (by omega)) rfl ?_ | refine SubS.cons (ciB (by assumption)) rfl ?_)); (case hh => repeat (first | exact SubH.nil | refine SubH.cons rfl rfl rfl ?_)))
    ·refine VMv.alloc rfl rfl rfl rfl (by kernel_rfl) rfl ?_
     refine VAny.movesI (is := [3]) (by kernel_rfl) (by simp) rfl (all1 ?_)
     ·refine VMv.append (zs := g.terms.map encS) rfl rfl rfl rfl (by rfl) (by decide) rfl (.arr rfl) rfl rfl (.sl) (by simp only [List.length_append, List.length_cons, List.length_nil, List.length_map]; unfold most; omega) (by simp only [List.length_append, List.length_cons, List.length_nil, List.length_map]; unfold most; omega) rfl ( by simp) ?_
      refine VAny.frz (id := 5) (g.terms.map encS) rfl ?_
      refine VAny.movesI (is := [7]) (by kernel_rfl) (by simp) rfl (all1 ?_)
      ·refine VMv.append (zs := g.names.map encS) rfl rfl rfl rfl (by rfl) (by decide) rfl (.arr rfl) rfl rfl (.sl) (by simp only [List.length_append, List.length_cons, List.length_nil, List.length_map]; unfold most; omega) (by simp only [List.length_append, List.length_cons, List.length_nil, List.length_map]; unfold most; omega) rfl ( by simp) ?_
       refine VAny.frz (id := 6) (g.names.map encS) rfl ?_
       refine VAny.pureI (i := 8) rfl rfl (by kernel_rfl) rfl (VPure.buildC rfl (by kernel_rfl) rfl (by rfl)) ?_
       refine VAny.movesI (is := [10]) (by kernel_rfl) (by simp) rfl (all1 ?_)
       ·refine VMv.store rfl rfl rfl (by rfl) rfl rfl rfl rfl rfl rfl (leR (by rfl)) rfl ?_
        refine VAny.done ?_
        (refine Less.mk (l := [0, 1, 4]) hcx ?ss ?hh rfl (by decide) rfl rfl; (case ss => repeat (first | exact SubS.nil | refine SubS.cons rfl rfl ?_ | refine SubS.cons (ciI (by omega)) rfl ?_ | refine SubS.cons (ciB (by assumption)) rfl ?_)); (case hh => repeat (first | exact SubH.nil | refine SubH.cons rfl rfl rfl ?_)))
   ·refine VMv.alloc rfl rfl rfl rfl (by kernel_rfl) rfl ?_
    refine VAny.movesI (is := [3, 4]) (by kernel_rfl) (by simp) rfl (allC ?_ (all1 ?_))
    ·refine VMv.append (zs := g.terms.map encS) rfl rfl rfl rfl (by rfl) (by decide) rfl (.arr rfl) rfl rfl (.sl) (by simp only [List.length_append, List.length_cons, List.length_nil, List.length_map]; unfold most; omega) (by simp only [List.length_append, List.length_cons, List.length_nil, List.length_map]; unfold most; omega) rfl ( by simp) ?_
     refine VAny.frz (id := 4) (g.terms.map encS) rfl ?_
     refine VAny.movesI (is := [4]) (by kernel_rfl) (by simp) rfl (all1 ?_)
     ·refine VMv.lit (rows := []) rfl rfl rfl rfl (by kernel_rfl) (by rfl) (by decide) (by decide) rfl (by rfl) (by rfl) (by rfl) (by rfl) ?_
      refine VAny.movesI (is := [7]) (by kernel_rfl) (by simp) rfl (all1 ?_)
      ·refine VMv.append (zs := g.names.map encS) rfl rfl rfl rfl (by rfl) (by decide) rfl (.arr rfl) rfl rfl (.sl) (by simp only [List.length_append, List.length_cons, List.length_nil, List.length_map]; unfold most; omega) (by simp only [List.length_append, List.length_cons, List.length_nil, List.length_map]; unfold most; omega) rfl ( by simp) ?_
       refine VAny.frz (id := 6) (g.names.map encS) rfl ?_
       refine VAny.pureI (i := 8) rfl rfl (by kernel_rfl) rfl (VPure.buildC rfl (by kernel_rfl) rfl (by rfl)) ?_
       refine VAny.movesI (is := [10]) (by kernel_rfl) (by simp) rfl (all1 ?_)
       ·refine VMv.store rfl rfl rfl (by rfl) rfl rfl rfl rfl rfl rfl (leR (by rfl)) rfl ?_
        refine VAny.done ?_
        (refine Less.mk (l := [0, 1, 3]) hcx ?ss ?hh rfl (by decide) rfl rfl; (case ss => repeat (first | exact SubS.nil | refine SubS.cons rfl rfl ?_ | refine SubS.cons (ciI (by omega)) rfl ?_ | refine SubS.cons (ciB (by assumption)) rfl ?_)); (case hh => repeat (first | exact SubH.nil | refine SubH.cons rfl rfl rfl ?_)))
    ·refine VMv.lit (rows := []) rfl rfl rfl rfl (by kernel_rfl) (by rfl) (by decide) (by decide) rfl (by rfl) (by rfl) (by rfl) (by rfl) ?_
     refine VAny.movesI (is := [3]) (by kernel_rfl) (by simp) rfl (all1 ?_)
     ·refine VMv.append (zs := g.terms.map encS) rfl rfl rfl rfl (by rfl) (by decide) rfl (.arr rfl) rfl rfl (.sl) (by simp only [List.length_append, List.length_cons, List.length_nil, List.length_map]; unfold most; omega) (by simp only [List.length_append, List.length_cons, List.length_nil, List.length_map]; unfold most; omega) rfl ( by simp) ?_
      refine VAny.frz (id := 5) (g.terms.map encS) rfl ?_
      refine VAny.movesI (is := [7]) (by kernel_rfl) (by simp) rfl (all1 ?_)
      ·refine VMv.append (zs := g.names.map encS) rfl rfl rfl rfl (by rfl) (by decide) rfl (.arr rfl) rfl rfl (.sl) (by simp only [List.length_append, List.length_cons, List.length_nil, List.length_map]; unfold most; omega) (by simp only [List.length_append, List.length_cons, List.length_nil, List.length_map]; unfold most; omega) rfl ( by simp) ?_
       refine VAny.frz (id := 6) (g.names.map encS) rfl ?_
       refine VAny.pureI (i := 8) rfl rfl (by kernel_rfl) rfl (VPure.buildC rfl (by kernel_rfl) rfl (by rfl)) ?_
       refine VAny.movesI (is := [10]) (by kernel_rfl) (by simp) rfl (all1 ?_)
       ·refine VMv.store rfl rfl rfl (by rfl) rfl rfl rfl rfl rfl rfl (leR (by rfl)) rfl ?_
        refine VAny.done ?_
        (refine Less.mk (l := [0, 1, 3]) hcx ?ss ?hh rfl (by decide) rfl rfl; (case ss => repeat (first | exact SubS.nil | refine SubS.cons rfl rfl ?_ | refine SubS.cons (ciI (by omega)) rfl ?_ | refine SubS.cons (ciB (by assumption)) rfl ?_)); (case hh => repeat (first | exact SubH.nil | refine SubH.cons rfl rfl rfl ?_)))
  ·refine VMv.lit (rows := []) rfl rfl rfl rfl (by kernel_rfl) (by rfl) (by decide) (by decide) rfl (by rfl) (by rfl) (by rfl) (by rfl) ?_
   refine VAny.movesI (is := [0, 9]) (by kernel_rfl) (by simp) rfl (allC ?_ (all1 ?_))
   ·refine VMv.lit (rows := []) rfl rfl rfl rfl (by kernel_rfl) (by rfl) (by decide) (by decide) rfl (by rfl) (by rfl) (by rfl) (by rfl) ?_
    refine VAny.movesI (is := [3, 9]) (by kernel_rfl) (by simp) rfl (allC ?_ (all1 ?_))
    ·refine VMv.append (zs := g.terms.map encS) rfl rfl rfl rfl (by rfl) (by decide) rfl (.arr rfl) rfl rfl (.sl) (by simp only [List.length_append, List.length_cons, List.length_nil, List.length_map]; unfold most; omega) (by simp only [List.length_append, List.length_cons, List.length_nil, List.length_map]; unfold most; omega) rfl ( by simp) ?_
     refine VAny.frz (id := 4) (g.terms.map encS) rfl ?_
     refine VAny.movesI (is := [7, 9]) (by kernel_rfl) (by simp) rfl (allC ?_ (all1 ?_))
     ·refine VMv.append (zs := g.names.map encS) rfl rfl rfl rfl (by rfl) (by decide) rfl (.arr rfl) rfl rfl (.sl) (by simp only [List.length_append, List.length_cons, List.length_nil, List.length_map]; unfold most; omega) (by simp only [List.length_append, List.length_cons, List.length_nil, List.length_map]; unfold most; omega) rfl ( by simp) ?_
      refine VAny.frz (id := 5) (g.names.map encS) rfl ?_
      refine VAny.pureI (i := 8) rfl rfl (by kernel_rfl) rfl (VPure.buildC rfl (by kernel_rfl) rfl (by rfl)) ?_
      refine VAny.movesI (is := [9]) (by kernel_rfl) (by simp) rfl (all1 ?_)
      ·refine VMv.alloc rfl rfl rfl rfl (by kernel_rfl) rfl ?_
       refine VAny.movesI (is := [10]) (by kernel_rfl) (by simp) rfl (all1 ?_)
       ·refine VMv.store rfl rfl rfl (by rfl) rfl rfl rfl rfl rfl rfl (leR (by rfl)) rfl ?_
        refine VAny.done ?_
        (refine Less.mk (l := [0, 1, 6]) hcx ?ss ?hh rfl (by decide) rfl rfl; (case ss => repeat (first | exact SubS.nil | refine SubS.cons rfl rfl ?_ | refine SubS.cons (ciI (by omega)) rfl ?_ | refine SubS.cons (ciB (by assumption)) rfl ?_)); (case hh => repeat (first | exact SubH.nil | refine SubH.cons rfl rfl rfl ?_)))
     ·refine VMv.alloc rfl rfl rfl rfl (by kernel_rfl) rfl ?_
      refine VAny.movesI (is := [7]) (by kernel_rfl) (by simp) rfl (all1 ?_)
      ·refine VMv.append (zs := g.names.map encS) rfl rfl rfl rfl (by rfl) (by decide) rfl (.arr rfl) rfl rfl (.sl) (by simp only [List.length_append, List.length_cons, List.length_nil, List.length_map]; unfold most; omega) (by simp only [List.length_append, List.length_cons, List.length_nil, List.length_map]; unfold most; omega) rfl ( by simp) ?_
       refine VAny.frz (id := 6) (g.names.map encS) rfl ?_
       refine VAny.pureI (i := 8) rfl rfl (by kernel_rfl) rfl (VPure.buildC rfl (by kernel_rfl) rfl (by rfl)) ?_
       refine VAny.movesI (is := [10]) (by kernel_rfl) (by simp) rfl (all1 ?_)
       ·refine VMv.store rfl rfl rfl (by rfl) rfl rfl rfl rfl rfl rfl (leR (by rfl)) rfl ?_
        refine VAny.done ?_
        (refine Less.mk (l := [0, 1, 5]) hcx ?ss ?hh rfl (by decide) rfl rfl; (case ss => repeat (first | exact SubS.nil | refine SubS.cons rfl rfl ?_ | refine SubS.cons (ciI (by omega)) rfl ?_ | refine SubS.cons (ciB (by assumption)) rfl ?_)); (case hh => repeat (first | exact SubH.nil | refine SubH.cons rfl rfl rfl ?_)))
    ·refine VMv.alloc rfl rfl rfl rfl (by kernel_rfl) rfl ?_
     refine VAny.movesI (is := [3]) (by kernel_rfl) (by simp) rfl (all1 ?_)
     ·refine VMv.append (zs := g.terms.map encS) rfl rfl rfl rfl (by rfl) (by decide) rfl (.arr rfl) rfl rfl (.sl) (by simp only [List.length_append, List.length_cons, List.length_nil, List.length_map]; unfold most; omega) (by simp only [List.length_append, List.length_cons, List.length_nil, List.length_map]; unfold most; omega) rfl ( by simp) ?_
      refine VAny.frz (id := 5) (g.terms.map encS) rfl ?_
      refine VAny.movesI (is := [7]) (by kernel_rfl) (by simp) rfl (all1 ?_)
      ·refine VMv.append (zs := g.names.map encS) rfl rfl rfl rfl (by rfl) (by decide) rfl (.arr rfl) rfl rfl (.sl) (by simp only [List.length_append, List.length_cons, List.length_nil, List.length_map]; unfold most; omega) (by simp only [List.length_append, List.length_cons, List.length_nil, List.length_map]; unfold most; omega) rfl ( by simp) ?_
       refine VAny.frz (id := 6) (g.names.map encS) rfl ?_
       refine VAny.pureI (i := 8) rfl rfl (by kernel_rfl) rfl (VPure.buildC rfl (by kernel_rfl) rfl (by rfl)) ?_
       refine VAny.movesI (is := [10]) (by kernel_rfl) (by simp) rfl (all1 ?_)
       ·refine VMv.store rfl rfl rfl (by rfl) rfl rfl rfl rfl rfl rfl (leR (by rfl)) rfl ?_
        refine VAny.done ?_
        (refine Less.mk (l := [0, 1, 4]) hcx ?ss ?hh rfl (by decide) rfl rfl; (case ss => repeat (first | exact SubS.nil | refine SubS.cons rfl rfl ?_ | refine SubS.cons (ciI (by omega)) rfl ?_ | refine SubS.cons (ciB (by assumption)) rfl ?_)); (case hh => repeat (first | exact SubH.nil | refine SubH.cons rfl rfl rfl ?_)))
   ·refine VMv.alloc rfl rfl rfl rfl (by kernel_rfl) rfl ?_
    refine VAny.movesI (is := [0]) (by kernel_rfl) (by simp) rfl (all1 ?_)
    ·refine VMv.lit (rows := []) rfl rfl rfl rfl (by kernel_rfl) (by rfl) (by decide) (by decide) rfl (by rfl) (by rfl) (by rfl) (by rfl) ?_
     refine VAny.movesI (is := [3]) (by kernel_rfl) (by simp) rfl (all1 ?_)
     ·refine VMv.append (zs := g.terms.map encS) rfl rfl rfl rfl (by rfl) (by decide) rfl (.arr rfl) rfl rfl (.sl) (by simp only [List.length_append, List.length_cons, List.length_nil, List.length_map]; unfold most; omega) (by simp only [List.length_append, List.length_cons, List.length_nil, List.length_map]; unfold most; omega) rfl ( by simp) ?_
      refine VAny.frz (id := 5) (g.terms.map encS) rfl ?_
      refine VAny.movesI (is := [7]) (by kernel_rfl) (by simp) rfl (all1 ?_)
      ·refine VMv.append (zs := g.names.map encS) rfl rfl rfl rfl (by rfl) (by decide) rfl (.arr rfl) rfl rfl (.sl) (by simp only [List.length_append, List.length_cons, List.length_nil, List.length_map]; unfold most; omega) (by simp only [List.length_append, List.length_cons, List.length_nil, List.length_map]; unfold most; omega) rfl ( by simp) ?_
       refine VAny.frz (id := 6) (g.names.map encS) rfl ?_
       refine VAny.pureI (i := 8) rfl rfl (by kernel_rfl) rfl (VPure.buildC rfl (by kernel_rfl) rfl (by rfl)) ?_
       refine VAny.movesI (is := [10]) (by kernel_rfl) (by simp) rfl (all1 ?_)
       ·refine VMv.store rfl rfl rfl (by rfl) rfl rfl rfl rfl rfl rfl (leR (by rfl)) rfl ?_
        refine VAny.done ?_
        (refine Less.mk (l := [0, 1, 3]) hcx ?ss ?hh rfl (by decide) rfl rfl; (case ss => repeat (first | exact SubS.nil | refine SubS.cons rfl rfl ?_ | refine SubS.cons (ciI (by omega)) rfl ?_ | refine SubS.cons (ciB (by assumption)) rfl ?_)); (case hh => repeat (first | exact SubH.nil | refine SubH.cons rfl rfl rfl ?_)))
  ·refine VMv.alloc rfl rfl rfl rfl (by kernel_rfl) rfl ?_
   refine VAny.movesI (is := [0, 4]) (by kernel_rfl) (by simp) rfl (allC ?_ (all1 ?_))
   ·refine VMv.lit (rows := []) rfl rfl rfl rfl (by kernel_rfl) (by rfl) (by decide) (by decide) rfl (by rfl) (by rfl) (by rfl) (by rfl) ?_
    refine VAny.movesI (is := [3, 4]) (by kernel_rfl) (by simp) rfl (allC ?_ (all1 ?_))
    ·refine VMv.append (zs := g.terms.map encS) rfl rfl rfl rfl (by rfl) (by decide) rfl (.arr rfl) rfl rfl (.sl) (by simp only [List.length_append, List.length_cons, List.length_nil, List.length_map]; unfold most; omega) (by simp only [List.length_append, List.length_cons, List.length_nil, List.length_map]; unfold most; omega) rfl ( by simp) ?_
     refine VAny.frz (id := 4) (g.terms.map encS) rfl ?_
     refine VAny.movesI (is := [4]) (by kernel_rfl) (by simp) rfl (all1 ?_)
     ·refine VMv.lit (rows := []) rfl rfl rfl rfl (by kernel_rfl) (by rfl) (by decide) (by decide) rfl (by rfl) (by rfl) (by rfl) (by rfl) ?_
      refine VAny.movesI (is := [7]) (by kernel_rfl) (by simp) rfl (all1 ?_)
      ·refine VMv.append (zs := g.names.map encS) rfl rfl rfl rfl (by rfl) (by decide) rfl (.arr rfl) rfl rfl (.sl) (by simp only [List.length_append, List.length_cons, List.length_nil, List.length_map]; unfold most; omega) (by simp only [List.length_append, List.length_cons, List.length_nil, List.length_map]; unfold most; omega) rfl ( by simp) ?_
       refine VAny.frz (id := 6) (g.names.map encS) rfl ?_
       refine VAny.pureI (i := 8) rfl rfl (by kernel_rfl) rfl (VPure.buildC rfl (by kernel_rfl) rfl (by rfl)) ?_
       refine VAny.movesI (is := [10]) (by kernel_rfl) (by simp) rfl (all1 ?_)
       ·refine VMv.store rfl rfl rfl (by rfl) rfl rfl rfl rfl rfl rfl (leR (by rfl)) rfl ?_
        refine VAny.done ?_
        (refine Less.mk (l := [0, 1, 2]) hcx ?ss ?hh rfl (by decide) rfl rfl; (case ss => repeat (first | exact SubS.nil | refine SubS.cons rfl rfl ?_ | refine SubS.cons (ciI (by omega)) rfl ?_ | refine SubS.cons (ciB (by assumption)) rfl ?_)); (case hh => repeat (first | exact SubH.nil | refine SubH.cons rfl rfl rfl ?_)))
    ·refine VMv.lit (rows := []) rfl rfl rfl rfl (by kernel_rfl) (by rfl) (by decide) (by decide) rfl (by rfl) (by rfl) (by rfl) (by rfl) ?_
     refine VAny.movesI (is := [3]) (by kernel_rfl) (by simp) rfl (all1 ?_)
     ·refine VMv.append (zs := g.terms.map encS) rfl rfl rfl rfl (by rfl) (by decide) rfl (.arr rfl) rfl rfl (.sl) (by simp only [List.length_append, List.length_cons, List.length_nil, List.length_map]; unfold most; omega) (by simp only [List.length_append, List.length_cons, List.length_nil, List.length_map]; unfold most; omega) rfl ( by simp) ?_
      refine VAny.frz (id := 5) (g.terms.map encS) rfl ?_
      refine VAny.movesI (is := [7]) (by kernel_rfl) (by simp) rfl (all1 ?_)
      ·refine VMv.append (zs := g.names.map encS) rfl rfl rfl rfl (by rfl) (by decide) rfl (.arr rfl) rfl rfl (.sl) (by simp only [List.length_append, List.length_cons, List.length_nil, List.length_map]; unfold most; omega) (by simp only [List.length_append, List.length_cons, List.length_nil, List.length_map]; unfold most; omega) rfl ( by simp) ?_
       refine VAny.frz (id := 6) (g.names.map encS) rfl ?_
       refine VAny.pureI (i := 8) rfl rfl (by kernel_rfl) rfl (VPure.buildC rfl (by kernel_rfl) rfl (by rfl)) ?_
       refine VAny.movesI (is := [10]) (by kernel_rfl) (by simp) rfl (all1 ?_)
       ·refine VMv.store rfl rfl rfl (by rfl) rfl rfl rfl rfl rfl rfl (leR (by rfl)) rfl ?_
        refine VAny.done ?_
        (refine Less.mk (l := [0, 1, 2]) hcx ?ss ?hh rfl (by decide) rfl rfl; (case ss => repeat (first | exact SubS.nil | refine SubS.cons rfl rfl ?_ | refine SubS.cons (ciI (by omega)) rfl ?_ | refine SubS.cons (ciB (by assumption)) rfl ?_)); (case hh => repeat (first | exact SubH.nil | refine SubH.cons rfl rfl rfl ?_)))
   ·refine VMv.lit (rows := []) rfl rfl rfl rfl (by kernel_rfl) (by rfl) (by decide) (by decide) rfl (by rfl) (by rfl) (by rfl) (by rfl) ?_
    refine VAny.movesI (is := [0]) (by kernel_rfl) (by simp) rfl (all1 ?_)
    ·refine VMv.lit (rows := []) rfl rfl rfl rfl (by kernel_rfl) (by rfl) (by decide) (by decide) rfl (by rfl) (by rfl) (by rfl) (by rfl) ?_
     refine VAny.movesI (is := [3]) (by kernel_rfl) (by simp) rfl (all1 ?_)
     ·refine VMv.append (zs := g.terms.map encS) rfl rfl rfl rfl (by rfl) (by decide) rfl (.arr rfl) rfl rfl (.sl) (by simp only [List.length_append, List.length_cons, List.length_nil, List.length_map]; unfold most; omega) (by simp only [List.length_append, List.length_cons, List.length_nil, List.length_map]; unfold most; omega) rfl ( by simp) ?_
      refine VAny.frz (id := 5) (g.terms.map encS) rfl ?_
      refine VAny.movesI (is := [7]) (by kernel_rfl) (by simp) rfl (all1 ?_)
      ·refine VMv.append (zs := g.names.map encS) rfl rfl rfl rfl (by rfl) (by decide) rfl (.arr rfl) rfl rfl (.sl) (by simp only [List.length_append, List.length_cons, List.length_nil, List.length_map]; unfold most; omega) (by simp only [List.length_append, List.length_cons, List.length_nil, List.length_map]; unfold most; omega) rfl ( by simp) ?_
       refine VAny.frz (id := 6) (g.names.map encS) rfl ?_
       refine VAny.pureI (i := 8) rfl rfl (by kernel_rfl) rfl (VPure.buildC rfl (by kernel_rfl) rfl (by rfl)) ?_
       refine VAny.movesI (is := [10]) (by kernel_rfl) (by simp) rfl (all1 ?_)
       ·refine VMv.store rfl rfl rfl (by rfl) rfl rfl rfl rfl rfl rfl (leR (by rfl)) rfl ?_
        refine VAny.done ?_
        (refine Less.mk (l := [0, 1, 2]) hcx ?ss ?hh rfl (by decide) rfl rfl; (case ss => repeat (first | exact SubS.nil | refine SubS.cons rfl rfl ?_ | refine SubS.cons (ciI (by omega)) rfl ?_ | refine SubS.cons (ciB (by assumption)) rfl ?_)); (case hh => repeat (first | exact SubH.nil | refine SubH.cons rfl rfl rfl ?_)))
 (repeat (first | ((with_reducible refine VOps.same ?_); (first | (refine VOps.nil ?_; try dsimp only [VThen, VBlock]) | refine VOps.vP (VPure.assign rfl rfl) ?_)) | refine VCode.seq ?_ | refine VCode.region rfl ?_ | refine VCode.block ?_))
 refine VCode.nilCell (id := 2) 2 46 2 rfl rfl rfl rfl ?_
 refine VCode.loop (fun m st => ∃ k : Nat, k ≤ g.rules.length ∧ m = g.rules.length - k ∧ st = ⟨[(4, .val (.int .i64 (k : Int))), (1, .ptr 0 0), (2, .ptr 1 0), (3, .ptr 2 0)], [(0, gO g), (1, .cells 25 [.val (.slice none 0 0), .val (.slice none 0 0), .val (.slice none 0 0)]), (2, .cells 25 [.sl 1 (g.terms.map encS), .sl 1 (g.names.map encS), .ref 3]), (3, .arr 46 2 ((g.rules.take k).map encR))], 4⟩) g.rules.length ?_ ?_
 ·(refine Less.mk (l := [0, 1, 2, 3]) hcx ?ss ?hh rfl (by decide) rfl ⟨0, by omega, by omega, rfl⟩; (case ss => repeat (first | exact SubS.nil | refine SubS.cons rfl rfl ?_ | refine SubS.cons (ciI (by omega)) rfl ?_ | refine SubS.cons (ciB (by assumption)) rfl ?_)); (case hh => repeat (first | exact SubH.nil | refine SubH.cons rfl rfl rfl ?_)))
 rintro m st ⟨k, hk, rfl, rfl⟩
 cases hq : g.rules[k]? with
 | some r =>
  have hlt : k < g.rules.length := (List.getElem?_eq_some_iff.1 hq).1
  have hrr := hg.rights r (List.mem_of_getElem? hq)
  have htl : (g.rules.take k).length ≤ 4000 := by rw [List.length_take]; omega
  (repeat (first | ((with_reducible refine VOps.same ?_); (first | (refine VOps.nil ?_; try dsimp only [VThen, VBlock]) | refine VOps.vP (VPure.move rfl rfl) ?_ | refine VOps.vP (VPure.len_map TI.und' rfl rfl) ?_ | refine VOps.vP (VPure.field_ptr rfl rfl rfl) ?_ | refine VOps.vV (VLoad.box1 rfl rfl rfl rfl (by rfl) (by decide)) ?_ | refine VOps.vP (VPure.lss rfl rfl rfl) ?_)) | refine VCode.seq ?_ | refine VCode.region rfl ?_))
  refine VCode.cond_t rfl (decide_eq_true (by omega)) ?_
  (repeat (first | refine VCode.seq ?_ | refine VCode.block ?_ | refine VCode.skip ?_))
  refine VCode.inTo ⟨[(4, .val (.int .i64 (k : Int))), (1, .ptr 0 0), (2, .ptr 1 0), (3, .ptr 2 0)], [(0, gO g), (1, .cells 25 [.val (.slice none 0 0), .val (.slice none 0 0), .val (.slice none 0 0)]), (2, .cells 25 [.sl 1 (g.terms.map encS), .sl 1 (g.names.map encS), .ref 3]), (3, .arr 46 2 ((g.rules.take (k + 1)).map encR))], 4⟩ ?_ ?_
  ·refine VCode.drawAny [2, 3, 4, 5, 6, 7] (by kernel_rfl) rfl ?_
   refine VAny.pureI (i := 0) rfl rfl (by kernel_rfl) rfl (VPure.field_ptr rfl rfl rfl) ?_
   refine VAny.pureI (i := 2) rfl rfl (by kernel_rfl) rfl (VPure.field_ptr rfl rfl rfl) ?_
   refine VAny.loadI (i := 3) rfl rfl (by kernel_rfl) rfl (VLoad.box1 rfl rfl rfl rfl (by rfl) (by decide)) ?_
   refine VAny.pureI (i := 4) rfl rfl (by kernel_rfl) rfl (VPure.move rfl rfl) ?_
   refine VAny.pureI (i := 5) rfl rfl (by kernel_rfl) rfl (VPure.idx_map rfl rfl rfl (by assumption)) ?_
   refine VAny.pureI (i := 6) rfl rfl (by kernel_rfl) rfl (VPure.field_el rfl rfl) ?_
   refine VAny.loadI (i := 7) rfl rfl (by kernel_rfl) rfl (VLoad.el1 rfl rfl rfl (by rfl)) ?_
   refine VAny.pureI (i := 9) rfl rfl (by kernel_rfl) rfl (VPure.field_ptr rfl rfl rfl) ?_
   refine VAny.loadI (i := 10) rfl rfl (by kernel_rfl) rfl (VLoad.box1 rfl rfl rfl rfl (by rfl) (by decide)) ?_
   refine VAny.pureI (i := 11) rfl rfl (by kernel_rfl) rfl (VPure.move rfl rfl) ?_
   refine VAny.pureI (i := 12) rfl rfl (by kernel_rfl) rfl (VPure.idx_map rfl rfl rfl (by assumption)) ?_
   refine VAny.pureI (i := 13) rfl rfl (by kernel_rfl) rfl (VPure.field_el rfl rfl) ?_
   refine VAny.loadI (i := 14) rfl rfl (by kernel_rfl) rfl (VLoad.el1 rfl rfl rfl (by rfl)) ?_
   refine VAny.movesI (is := [1, 8]) (by kernel_rfl) (by simp) rfl (allC ?_ (all1 ?_))
   ·refine VMv.load rfl rfl rfl (VLoad.box1 rfl rfl rfl rfl (by rfl) (by decide)) ?_
    refine VAny.movesI (is := [8]) (by kernel_rfl) (by simp) rfl (all1 ?_)
    ·refine VMv.lit (rows := []) rfl rfl rfl rfl (by kernel_rfl) (by rfl) (by decide) (by decide) rfl (by rfl) (by rfl) (by rfl) (by rfl) ?_
     refine VAny.movesI (is := [15]) (by kernel_rfl) (by simp) rfl (all1 ?_)
     ·refine VMv.append (zs := r.right.map encI) rfl rfl rfl rfl (by rfl) (by decide) rfl (.arr rfl) rfl rfl (.sl) (by simp only [List.length_append, List.length_cons, List.length_nil, List.length_map]; unfold most; omega) (by simp only [List.length_append, List.length_cons, List.length_nil, List.length_map]; unfold most; omega) rfl ( by simp) ?_
      refine VAny.frz (id := 5) (r.right.map encI) rfl ?_
      refine VAny.pureI (i := 16) rfl rfl (by kernel_rfl) rfl (VPure.buildC rfl (by kernel_rfl) rfl (by rfl)) ?_
      refine VAny.movesI (is := [17]) (by kernel_rfl) (by simp) rfl (all1 ?_)
      ·refine VMv.one rfl rfl rfl rfl (by rfl) (by decide) (by decide) rfl (by rfl) (by rfl) ?_
       refine VAny.movesI (is := [18]) (by kernel_rfl) (by simp) rfl (all1 ?_)
       ·refine VMv.append (zs := (g.rules.take (k + 1)).map encR) rfl rfl rfl rfl (by rfl) (by decide) rfl (.arr rfl) rfl rfl (.arr rfl) (by simp only [List.length_append, List.length_cons, List.length_nil, List.length_map]; unfold most; omega) (by simp only [List.length_append, List.length_cons, List.length_nil, List.length_map]; unfold most; omega) rfl ( by rw [List.take_add_one, hq, List.map_append]; rfl) ?_
        refine VAny.pureI (i := 19) rfl rfl (by kernel_rfl) rfl (VPure.field_ptr rfl rfl rfl) ?_
        refine VAny.movesI (is := [20]) (by kernel_rfl) (by simp) rfl (all1 ?_)
        ·refine VMv.store rfl rfl rfl (by rfl) rfl rfl rfl rfl rfl rfl (leR (by rfl)) rfl ?_
         refine VAny.done ?_
         (refine Less.mk (l := [0, 1, 2, 7]) hcx ?ss ?hh rfl (by decide) rfl rfl; (case ss => repeat (first | exact SubS.nil | refine SubS.cons rfl rfl ?_ | refine SubS.cons (ciI (by omega)) rfl ?_ | refine SubS.cons (ciB (by assumption)) rfl ?_)); (case hh => repeat (first | exact SubH.nil | refine SubH.cons rfl rfl rfl ?_)))
   ·refine VMv.lit (rows := []) rfl rfl rfl rfl (by kernel_rfl) (by rfl) (by decide) (by decide) rfl (by rfl) (by rfl) (by rfl) (by rfl) ?_
    refine VAny.movesI (is := [1, 15]) (by kernel_rfl) (by simp) rfl (allC ?_ (all1 ?_))
    ·refine VMv.load rfl rfl rfl (VLoad.box1 rfl rfl rfl rfl (by rfl) (by decide)) ?_
     refine VAny.movesI (is := [15]) (by kernel_rfl) (by simp) rfl (all1 ?_)
     ·refine VMv.append (zs := r.right.map encI) rfl rfl rfl rfl (by rfl) (by decide) rfl (.arr rfl) rfl rfl (.sl) (by simp only [List.length_append, List.length_cons, List.length_nil, List.length_map]; unfold most; omega) (by simp only [List.length_append, List.length_cons, List.length_nil, List.length_map]; unfold most; omega) rfl ( by simp) ?_
      refine VAny.frz (id := 5) (r.right.map encI) rfl ?_
      refine VAny.pureI (i := 16) rfl rfl (by kernel_rfl) rfl (VPure.buildC rfl (by kernel_rfl) rfl (by rfl)) ?_
      refine VAny.movesI (is := [17]) (by kernel_rfl) (by simp) rfl (all1 ?_)
      ·refine VMv.one rfl rfl rfl rfl (by rfl) (by decide) (by decide) rfl (by rfl) (by rfl) ?_
       refine VAny.movesI (is := [18]) (by kernel_rfl) (by simp) rfl (all1 ?_)
       ·refine VMv.append (zs := (g.rules.take (k + 1)).map encR) rfl rfl rfl rfl (by rfl) (by decide) rfl (.arr rfl) rfl rfl (.arr rfl) (by simp only [List.length_append, List.length_cons, List.length_nil, List.length_map]; unfold most; omega) (by simp only [List.length_append, List.length_cons, List.length_nil, List.length_map]; unfold most; omega) rfl ( by rw [List.take_add_one, hq, List.map_append]; rfl) ?_
        refine VAny.pureI (i := 19) rfl rfl (by kernel_rfl) rfl (VPure.field_ptr rfl rfl rfl) ?_
        refine VAny.movesI (is := [20]) (by kernel_rfl) (by simp) rfl (all1 ?_)
        ·refine VMv.store rfl rfl rfl (by rfl) rfl rfl rfl rfl rfl rfl (leR (by rfl)) rfl ?_
         refine VAny.done ?_
         (refine Less.mk (l := [0, 1, 2, 7]) hcx ?ss ?hh rfl (by decide) rfl rfl; (case ss => repeat (first | exact SubS.nil | refine SubS.cons rfl rfl ?_ | refine SubS.cons (ciI (by omega)) rfl ?_ | refine SubS.cons (ciB (by assumption)) rfl ?_)); (case hh => repeat (first | exact SubH.nil | refine SubH.cons rfl rfl rfl ?_)))
    ·refine VMv.append (zs := r.right.map encI) rfl rfl rfl rfl (by rfl) (by decide) rfl (.arr rfl) rfl rfl (.sl) (by simp only [List.length_append, List.length_cons, List.length_nil, List.length_map]; unfold most; omega) (by simp only [List.length_append, List.length_cons, List.length_nil, List.length_map]; unfold most; omega) rfl ( by simp) ?_
     refine VAny.frz (id := 5) (r.right.map encI) rfl ?_
     refine VAny.pureI (i := 16) rfl rfl (by kernel_rfl) rfl (VPure.buildC rfl (by kernel_rfl) rfl (by rfl)) ?_
     refine VAny.movesI (is := [1, 17]) (by kernel_rfl) (by simp) rfl (allC ?_ (all1 ?_))
     ·refine VMv.load rfl rfl rfl (VLoad.box1 rfl rfl rfl rfl (by rfl) (by decide)) ?_
      refine VAny.movesI (is := [17]) (by kernel_rfl) (by simp) rfl (all1 ?_)
      ·refine VMv.one rfl rfl rfl rfl (by rfl) (by decide) (by decide) rfl (by rfl) (by rfl) ?_
       refine VAny.movesI (is := [18]) (by kernel_rfl) (by simp) rfl (all1 ?_)
       ·refine VMv.append (zs := (g.rules.take (k + 1)).map encR) rfl rfl rfl rfl (by rfl) (by decide) rfl (.arr rfl) rfl rfl (.arr rfl) (by simp only [List.length_append, List.length_cons, List.length_nil, List.length_map]; unfold most; omega) (by simp only [List.length_append, List.length_cons, List.length_nil, List.length_map]; unfold most; omega) rfl ( by rw [List.take_add_one, hq, List.map_append]; rfl) ?_
        refine VAny.pureI (i := 19) rfl rfl (by kernel_rfl) rfl (VPure.field_ptr rfl rfl rfl) ?_
        refine VAny.movesI (is := [20]) (by kernel_rfl) (by simp) rfl (all1 ?_)
        ·refine VMv.store rfl rfl rfl (by rfl) rfl rfl rfl rfl rfl rfl (leR (by rfl)) rfl ?_
         refine VAny.done ?_
         (refine Less.mk (l := [0, 1, 2, 7]) hcx ?ss ?hh rfl (by decide) rfl rfl; (case ss => repeat (first | exact SubS.nil | refine SubS.cons rfl rfl ?_ | refine SubS.cons (ciI (by omega)) rfl ?_ | refine SubS.cons (ciB (by assumption)) rfl ?_)); (case hh => repeat (first | exact SubH.nil | refine SubH.cons rfl rfl rfl ?_)))
     ·refine VMv.one rfl rfl rfl rfl (by rfl) (by decide) (by decide) rfl (by rfl) (by rfl) ?_
      refine VAny.movesI (is := [1]) (by kernel_rfl) (by simp) rfl (all1 ?_)
      ·refine VMv.load rfl rfl rfl (VLoad.box1 rfl rfl rfl rfl (by rfl) (by decide)) ?_
       refine VAny.movesI (is := [18]) (by kernel_rfl) (by simp) rfl (all1 ?_)
       ·refine VMv.append (zs := (g.rules.take (k + 1)).map encR) rfl rfl rfl rfl (by rfl) (by decide) rfl (.arr rfl) rfl rfl (.arr rfl) (by simp only [List.length_append, List.length_cons, List.length_nil, List.length_map]; unfold most; omega) (by simp only [List.length_append, List.length_cons, List.length_nil, List.length_map]; unfold most; omega) rfl ( by rw [List.take_add_one, hq, List.map_append]; rfl) ?_
        refine VAny.pureI (i := 19) rfl rfl (by kernel_rfl) rfl (VPure.field_ptr rfl rfl rfl) ?_
        refine VAny.movesI (is := [20]) (by kernel_rfl) (by simp) rfl (all1 ?_)
        ·refine VMv.store rfl rfl rfl (by rfl) rfl rfl rfl rfl rfl rfl (leR (by rfl)) rfl ?_
         refine VAny.done ?_
         (refine Less.mk (l := [0, 1, 2, 7]) hcx ?ss ?hh rfl (by decide) rfl rfl; (case ss => repeat (first | exact SubS.nil | refine SubS.cons rfl rfl ?_ | refine SubS.cons (ciI (by omega)) rfl ?_ | refine SubS.cons (ciB (by assumption)) rfl ?_)); (case hh => repeat (first | exact SubH.nil | refine SubH.cons rfl rfl rfl ?_)))
  (repeat (first | ((with_reducible refine VOps.same ?_); (first | (refine VOps.nil ?_; try dsimp only [VThen, VBlock]) | refine VOps.vP (VPure.move rfl rfl) ?_ | refine VOps.vP (VPure.assign rfl rfl) ?_ | refine VOps.vP (VPure.addK rfl rfl rfl (by omega)) ?_)) | refine VCode.region rfl ?_))
  (refine Less.mk (l := [0, 1, 2, 3]) hcx ?ss ?hh rfl (by decide) rfl ⟨_, ?_, k + 1, by omega, rfl, rfl⟩; (case ss => repeat (first | exact SubS.nil | refine SubS.cons rfl rfl ?_ | refine SubS.cons (ciI (by omega)) rfl ?_ | refine SubS.cons (ciB (by assumption)) rfl ?_)); (case hh => repeat (first | exact SubH.nil | refine SubH.cons rfl rfl rfl ?_)))
  omega
 | none =>
  have hge : g.rules.length ≤ k := List.getElem?_eq_none_iff.1 hq
  rw [List.take_of_length_le hge]
  (repeat (first | ((with_reducible refine VOps.same ?_); (first | (refine VOps.nil ?_; try dsimp only [VThen, VBlock]) | refine VOps.vP (VPure.move rfl rfl) ?_ | refine VOps.vP (VPure.len_map TI.und' rfl rfl) ?_ | refine VOps.vP (VPure.field_ptr rfl rfl rfl) ?_ | refine VOps.vV (VLoad.box1 rfl rfl rfl rfl (by rfl) (by decide)) ?_ | refine VOps.vP (VPure.lss rfl rfl rfl) ?_)) | refine VCode.seq ?_ | refine VCode.region rfl ?_))
  refine VCode.cond_f rfl (decide_eq_false (by omega)) ?_
  (repeat (first | ((with_reducible refine VOps.same ?_); (first | (refine VOps.nil ?_; try dsimp only [VThen, VBlock]) | refine VOps.vV (VLoad.boxA rfl rfl rfl (by rfl) (leR (by rfl)) (by decide)) ?_ | refine VOps.store rfl rfl (by kernel_rfl) rfl rfl rfl rfl rfl rfl (leR (by rfl)) rfl ?_)) | refine VCode.seq ?_ | refine VCode.region rfl ?_ | refine VCode.exit ?_))
  refine VCode.ret ?_
  (show Less cx _ _; refine Less.mkx (l := [3, 1]) (st' := ⟨[(2, .ptr 1 0)], [(0, .arr 46 2 (g.rules.map encR)), (1, .cells 25 [.sl 1 (g.terms.map encS), .sl 1 (g.names.map encS), .ref 0])], 2⟩) 0 hcx (Nat.le_of_ble_eq_true rfl) (by decide) ?ss ?hh rfl (by decide) rfl ⟨_, (.cellA rfl rfl rfl (leR (by rfl)) .nil), rfl, rfl, rfl⟩; (case ss => repeat (first | exact SubS.nil | refine SubS.cons rfl rfl ?_ | refine SubS.cons (ciI (by omega)) rfl ?_ | refine SubS.cons (ciB (by assumption)) rfl ?_)); (case hh => repeat (first | exact SubH.nil | refine SubH.cons rfl rfl rfl ?_)))
end Go.Proofs.Ytfjfbapiheehaaa.V
end
section
set_option linter.unusedVariables false
set_option linter.unusedSimpArgs false
namespace Go.Proofs.Ytfjfbapiheehaaa.V
open Go Go.RowKit Go.Proofs.Ytfjfbapiheehaaa.DG
set_option maxHeartbeats 4000000 in
theorem texts_v (a : List ByteArray) (ha : a.length ≤ 1000000) : VCalls Try.prog 42 [.sl 1 (a.map encS), .sl 1 (a.map encS)] [] 0 (Gives (.val (.bool true))) := by
 refine VCalls.enterD (n := 26) Try.func42 rfl rfl (by simp) rfl (fun cx hcx => ?_)
 (repeat (first | ((with_reducible refine VOps.same ?_); (first | (refine VOps.nil ?_; try dsimp only [VThen, VBlock]) | refine VOps.vP (VPure.move rfl rfl) ?_ | refine VOps.vP (VPure.assign rfl rfl) ?_ | refine VOps.vP (VPure.len_map TI.und' rfl rfl) ?_ | refine VOps.vP (VPure.nei rfl rfl rfl) ?_)) | refine VCode.seq ?_ | refine VCode.region rfl ?_))
 refine VCode.cond_f rfl (by simp) ?_
 (repeat (first | ((with_reducible refine VOps.same ?_); (first | (refine VOps.nil ?_; try dsimp only [VThen, VBlock]) | refine VOps.vP (VPure.assign rfl rfl) ?_)) | refine VCode.seq ?_ | refine VCode.region rfl ?_ | refine VCode.block ?_ | refine VCode.skip ?_))
 refine VCode.loop (fun m st => ∃ i : Nat, i ≤ a.length ∧ m = a.length - i ∧ st = ⟨[(5, .val (.int .i64 (i : Int))), (0, .sl 1 (a.map encS)), (1, .sl 1 (a.map encS))], [], 0⟩) a.length ?_ ?_
 ·(refine Less.mk (l := []) hcx ?ss ?hh rfl (by decide) rfl ⟨0, by omega, by omega, rfl⟩; (case ss => repeat (first | exact SubS.nil | refine SubS.cons rfl rfl ?_ | refine SubS.cons (ciI (by omega)) rfl ?_ | refine SubS.cons (ciB (by assumption)) rfl ?_)); (case hh => repeat (first | exact SubH.nil | refine SubH.cons rfl rfl rfl ?_)))
 rintro m st ⟨i, hi, rfl, rfl⟩
 cases hq : a[i]? with
 | some s =>
  have hlt : i < a.length := (List.getElem?_eq_some_iff.1 hq).1
  (repeat (first | ((with_reducible refine VOps.same ?_); (first | (refine VOps.nil ?_; try dsimp only [VThen, VBlock]) | refine VOps.vP (VPure.move rfl rfl) ?_ | refine VOps.vP (VPure.len_map TI.und' rfl rfl) ?_ | refine VOps.vP (VPure.lss rfl rfl rfl) ?_)) | refine VCode.seq ?_ | refine VCode.region rfl ?_))
  refine VCode.cond_t rfl (decide_eq_true (by omega)) ?_
  (repeat (first | ((with_reducible refine VOps.same ?_); (first | (refine VOps.nil ?_; try dsimp only [VThen, VBlock]) | refine VOps.vP (VPure.move rfl rfl) ?_ | refine VOps.vP (VPure.idx_map rfl rfl rfl (by assumption)) ?_ | refine VOps.vV (VLoad.el1 rfl rfl rfl (by rfl)) ?_ | refine VOps.vP (VPure.nes rfl rfl rfl) ?_)) | refine VCode.seq ?_ | refine VCode.draw [] rfl ?_ | refine VCode.block ?_ | refine VCode.skip ?_))
  refine VCode.cond_f rfl (by simp) ?_
  (repeat (first | ((with_reducible refine VOps.same ?_); (first | (refine VOps.nil ?_; try dsimp only [VThen, VBlock]) | refine VOps.vP (VPure.move rfl rfl) ?_ | refine VOps.vP (VPure.assign rfl rfl) ?_ | refine VOps.vP (VPure.addK rfl rfl rfl (by omega)) ?_)) | refine VCode.region rfl ?_ | refine VCode.skip ?_))
  (refine Less.mk (l := []) hcx ?ss ?hh rfl (by decide) rfl ⟨_, ?_, i + 1, by omega, rfl, rfl⟩; (case ss => repeat (first | exact SubS.nil | refine SubS.cons rfl rfl ?_ | refine SubS.cons (ciI (by omega)) rfl ?_ | refine SubS.cons (ciB (by assumption)) rfl ?_)); (case hh => repeat (first | exact SubH.nil | refine SubH.cons rfl rfl rfl ?_)))
  omega
 | none =>
  have hge : a.length ≤ i := List.getElem?_eq_none_iff.1 hq
  (repeat (first | ((with_reducible refine VOps.same ?_); (first | (refine VOps.nil ?_; try dsimp only [VThen, VBlock]) | refine VOps.vP (VPure.move rfl rfl) ?_ | refine VOps.vP (VPure.len_map TI.und' rfl rfl) ?_ | refine VOps.vP (VPure.lss rfl rfl rfl) ?_)) | refine VCode.seq ?_ | refine VCode.region rfl ?_))
  refine VCode.cond_f rfl (decide_eq_false (by omega)) ?_
  (repeat (first | ((with_reducible refine VOps.same ?_); (first | (refine VOps.nil ?_; try dsimp only [VThen, VBlock]) | refine VOps.vP (VPure.assign rfl rfl) ?_)) | refine VCode.seq ?_ | refine VCode.region rfl ?_ | refine VCode.exit ?_))
  refine VCode.retD rfl rfl (.tmp rfl .nil) ?_
  rfl
set_option maxHeartbeats 4000000 in
theorem ints_t (a : List Int) (ha : a.length ≤ 1000000) : VCalls Try.prog 20 [.sl 1 (a.map encI), .sl 1 (a.map encI)] [] 0 (Gives (.val (.bool true))) := by
 refine VCalls.enterD (n := 26) Try.func20 rfl rfl (by simp) rfl (fun cx hcx => ?_)
 (repeat (first | ((with_reducible refine VOps.same ?_); (first | (refine VOps.nil ?_; try dsimp only [VThen, VBlock]) | refine VOps.vP (VPure.move rfl rfl) ?_ | refine VOps.vP (VPure.assign rfl rfl) ?_ | refine VOps.vP (VPure.len_map TI.und' rfl rfl) ?_ | refine VOps.vP (VPure.nei rfl rfl rfl) ?_)) | refine VCode.seq ?_ | refine VCode.region rfl ?_))
 refine VCode.cond_f rfl (by simp) ?_
 (repeat (first | ((with_reducible refine VOps.same ?_); (first | (refine VOps.nil ?_; try dsimp only [VThen, VBlock]) | refine VOps.vP (VPure.assign rfl rfl) ?_)) | refine VCode.seq ?_ | refine VCode.region rfl ?_ | refine VCode.block ?_ | refine VCode.skip ?_))
 refine VCode.loop (fun m st => ∃ i : Nat, i ≤ a.length ∧ m = a.length - i ∧ st = ⟨[(5, .val (.int .i64 (i : Int))), (0, .sl 1 (a.map encI)), (1, .sl 1 (a.map encI))], [], 0⟩) a.length ?_ ?_
 ·(refine Less.mk (l := []) hcx ?ss ?hh rfl (by decide) rfl ⟨0, by omega, by omega, rfl⟩; (case ss => repeat (first | exact SubS.nil | refine SubS.cons rfl rfl ?_ | refine SubS.cons (ciI (by omega)) rfl ?_ | refine SubS.cons (ciB (by assumption)) rfl ?_)); (case hh => repeat (first | exact SubH.nil | refine SubH.cons rfl rfl rfl ?_)))
 rintro m st ⟨i, hi, rfl, rfl⟩
 cases hq : a[i]? with
 | some s =>
  have hlt : i < a.length := (List.getElem?_eq_some_iff.1 hq).1
  (repeat (first | ((with_reducible refine VOps.same ?_); (first | (refine VOps.nil ?_; try dsimp only [VThen, VBlock]) | refine VOps.vP (VPure.move rfl rfl) ?_ | refine VOps.vP (VPure.len_map TI.und' rfl rfl) ?_ | refine VOps.vP (VPure.lss rfl rfl rfl) ?_)) | refine VCode.seq ?_ | refine VCode.region rfl ?_))
  refine VCode.cond_t rfl (decide_eq_true (by omega)) ?_
  (repeat (first | ((with_reducible refine VOps.same ?_); (first | (refine VOps.nil ?_; try dsimp only [VThen, VBlock]) | refine VOps.vP (VPure.move rfl rfl) ?_ | refine VOps.vP (VPure.idx_map rfl rfl rfl (by assumption)) ?_ | refine VOps.vV (VLoad.el1 rfl rfl rfl (by rfl)) ?_ | refine VOps.vP (VPure.nei rfl rfl rfl) ?_)) | refine VCode.seq ?_ | refine VCode.draw [] rfl ?_ | refine VCode.block ?_ | refine VCode.skip ?_))
  refine VCode.cond_f rfl (by simp) ?_
  (repeat (first | ((with_reducible refine VOps.same ?_); (first | (refine VOps.nil ?_; try dsimp only [VThen, VBlock]) | refine VOps.vP (VPure.move rfl rfl) ?_ | refine VOps.vP (VPure.assign rfl rfl) ?_ | refine VOps.vP (VPure.addK rfl rfl rfl (by omega)) ?_)) | refine VCode.region rfl ?_ | refine VCode.skip ?_))
  (refine Less.mk (l := []) hcx ?ss ?hh rfl (by decide) rfl ⟨_, ?_, i + 1, by omega, rfl, rfl⟩; (case ss => repeat (first | exact SubS.nil | refine SubS.cons rfl rfl ?_ | refine SubS.cons (ciI (by omega)) rfl ?_ | refine SubS.cons (ciB (by assumption)) rfl ?_)); (case hh => repeat (first | exact SubH.nil | refine SubH.cons rfl rfl rfl ?_)))
  omega
 | none =>
  have hge : a.length ≤ i := List.getElem?_eq_none_iff.1 hq
  (repeat (first | ((with_reducible refine VOps.same ?_); (first | (refine VOps.nil ?_; try dsimp only [VThen, VBlock]) | refine VOps.vP (VPure.move rfl rfl) ?_ | refine VOps.vP (VPure.len_map TI.und' rfl rfl) ?_ | refine VOps.vP (VPure.lss rfl rfl rfl) ?_)) | refine VCode.seq ?_ | refine VCode.region rfl ?_))
  refine VCode.cond_f rfl (decide_eq_false (by omega)) ?_
  (repeat (first | ((with_reducible refine VOps.same ?_); (first | (refine VOps.nil ?_; try dsimp only [VThen, VBlock]) | refine VOps.vP (VPure.assign rfl rfl) ?_)) | refine VCode.seq ?_ | refine VCode.region rfl ?_ | refine VCode.exit ?_))
  refine VCode.retD rfl rfl (.tmp rfl .nil) ?_
  rfl
theorem bools_t (a : List Bool) (h : a.length ≤ 1000000) : VCalls Try.prog 16 [.sl 1 (a.map encB), .sl 1 (a.map encB)] [] 0 (Gives (.val (.bool true))) := by
 have := bools_v a a h
 rwa [decide_eq_true rfl] at this
theorem spots_t (a : List Spot) (h : a.length ≤ 1000000) : VCalls Try.prog 17 [sV a, sV a] [] 0 (Gives (.val (.bool true))) := by
 have := spots_v a a h
 rwa [decide_eq_true rfl] at this
set_option maxHeartbeats 8000000 in
theorem kgram_v (g : Gr) (hg : Sized g) : VCalls Try.prog 25 [gV g, gV g] [] 0 (Gives (.val (.bool true))) := by
 have ht := hg.terms
 have hn := hg.names
 have hr := hg.rules
 refine VCalls.enterD (n := 65) Try.func25 rfl rfl (by simp) rfl (fun cx hcx => ?_)
 (repeat (first | ((with_reducible refine VOps.same ?_); (first | (refine VOps.nil ?_; try dsimp only [VThen, VBlock]) | refine VOps.vP (VPure.assign rfl rfl) ?_ | refine VOps.vP (VPure.field_ptr rfl rfl rfl) ?_ | refine VOps.vV (VLoad.box1 rfl rfl rfl rfl (by rfl) (by decide)) ?_ | refine VOps.box rfl rfl (by kernel_rfl) rfl rfl rfl rfl ?_)) | refine VCode.seq ?_ | refine VCode.region rfl ?_))
 refine VOps.pure rfl Try.func42 rfl (by kernel_rfl) rfl rfl rfl rfl rfl rfl rfl (texts_v g.terms (by omega)) ?_
 (repeat (first | ((with_reducible refine VOps.same ?_); (first | refine VOps.vP (VPure.move rfl rfl) ?_ | refine VOps.vP (VPure.field_ptr rfl rfl rfl) ?_ | refine VOps.vV (VLoad.box1 rfl rfl rfl rfl (by rfl) (by decide)) ?_ | refine VOps.vP (VPure.not rfl rfl) ?_))))
 refine VOps.pure rfl Try.func42 rfl (by kernel_rfl) rfl rfl rfl rfl rfl rfl rfl (texts_v g.names (by omega)) ?_
 (repeat (first | ((with_reducible refine VOps.same ?_); (first | (refine VOps.nil ?_; try dsimp only [VThen, VBlock]) | refine VOps.vP (VPure.move rfl rfl) ?_ | refine VOps.vP (VPure.len_map TI.und' rfl rfl) ?_ | refine VOps.vP (VPure.field_ptr rfl rfl rfl) ?_ | refine VOps.vV (VLoad.box1 rfl rfl rfl rfl (by rfl) (by decide)) ?_ | refine VOps.vP (VPure.nei rfl rfl rfl) ?_ | refine VOps.vP (VPure.not rfl rfl) ?_ | refine VOps.vP (VPure.pick_f rfl rfl rfl) ?_))))
 refine VCode.cond_f rfl (by simp) ?_
 (repeat (first | ((with_reducible refine VOps.same ?_); (first | (refine VOps.nil ?_; try dsimp only [VThen, VBlock]) | refine VOps.vP (VPure.assign rfl rfl) ?_)) | refine VCode.seq ?_ | refine VCode.region rfl ?_ | refine VCode.block ?_ | refine VCode.skip ?_))
 refine VCode.loop (fun m st => ∃ i : Nat, i ≤ g.rules.length ∧ m = g.rules.length - i ∧ st = ⟨[(5, .val (.int .i64 (i : Int))), (2, .ptr 0 0), (3, .ptr 1 0)], [(0, gO g), (1, gO g)], 2⟩) g.rules.length ?_ ?_
 ·(refine Less.mk (l := [0, 1]) hcx ?ss ?hh rfl (by decide) rfl ⟨0, by omega, by omega, rfl⟩; (case ss => repeat (first | exact SubS.nil | refine SubS.cons rfl rfl ?_ | refine SubS.cons (ciI (by omega)) rfl ?_ | refine SubS.cons (ciB (by assumption)) rfl ?_)); (case hh => repeat (first | exact SubH.nil | refine SubH.cons rfl rfl rfl ?_)))
 rintro m st ⟨i, hi, rfl, rfl⟩
 cases hq : g.rules[i]? with
 | some r =>
  have hlt : i < g.rules.length := (List.getElem?_eq_some_iff.1 hq).1
  have hrr := hg.rights r (List.mem_of_getElem? hq)
  (repeat (first | ((with_reducible refine VOps.same ?_); (first | (refine VOps.nil ?_; try dsimp only [VThen, VBlock]) | refine VOps.vP (VPure.move rfl rfl) ?_ | refine VOps.vP (VPure.len_map TI.und' rfl rfl) ?_ | refine VOps.vP (VPure.field_ptr rfl rfl rfl) ?_ | refine VOps.vV (VLoad.box1 rfl rfl rfl rfl (by rfl) (by decide)) ?_ | refine VOps.vP (VPure.lss rfl rfl rfl) ?_)) | refine VCode.seq ?_ | refine VCode.region rfl ?_))
  refine VCode.cond_t rfl (decide_eq_true (by omega)) ?_
  (repeat (first | ((with_reducible refine VOps.same ?_); (first | refine VOps.vP (VPure.move rfl rfl) ?_ | refine VOps.vP (VPure.idx_map rfl rfl rfl (by assumption)) ?_ | refine VOps.vP (VPure.field_el rfl rfl) ?_ | refine VOps.vP (VPure.field_ptr rfl rfl rfl) ?_ | refine VOps.vV (VLoad.el1 rfl rfl rfl (by rfl)) ?_ | refine VOps.vV (VLoad.box1 rfl rfl rfl rfl (by rfl) (by decide)) ?_ | refine VOps.vP (VPure.nei rfl rfl rfl) ?_)) | refine VCode.seq ?_ | refine VCode.draw [] rfl ?_ | refine VCode.block ?_ | refine VCode.skip ?_))
  refine VOps.says (d := 49) (v := .val (.bool false)) rfl (by simp) ?_
  (repeat (first | ((with_reducible refine VOps.same ?_); (first | refine VOps.vP (VPure.move rfl rfl) ?_ | refine VOps.vP (VPure.idx_map rfl rfl rfl (by assumption)) ?_ | refine VOps.vP (VPure.field_el rfl rfl) ?_ | refine VOps.vP (VPure.field_ptr rfl rfl rfl) ?_ | refine VOps.vV (VLoad.el1 rfl rfl rfl (by rfl)) ?_ | refine VOps.vV (VLoad.box1 rfl rfl rfl rfl (by rfl) (by decide)) ?_))))
  refine VOps.pure rfl Try.func20 rfl (by kernel_rfl) rfl rfl rfl rfl rfl rfl rfl (ints_t r.right (by omega)) ?_
  (repeat (first | ((with_reducible refine VOps.same ?_); (first | (refine VOps.nil ?_; try dsimp only [VThen, VBlock]) | refine VOps.vP (VPure.not rfl rfl) ?_ | refine VOps.vP (VPure.pick_f rfl rfl rfl) ?_))))
  refine VCode.cond_f rfl rfl ?_
  (repeat (first | ((with_reducible refine VOps.same ?_); (first | (refine VOps.nil ?_; try dsimp only [VThen, VBlock]) | refine VOps.vP (VPure.move rfl rfl) ?_ | refine VOps.vP (VPure.assign rfl rfl) ?_ | refine VOps.vP (VPure.addK rfl rfl rfl (by omega)) ?_)) | refine VCode.region rfl ?_ | refine VCode.skip ?_))
  (refine Less.mk (l := [0, 1]) hcx ?ss ?hh rfl (by decide) rfl ⟨_, ?_, i + 1, by omega, rfl, rfl⟩; (case ss => repeat (first | exact SubS.nil | refine SubS.cons rfl rfl ?_ | refine SubS.cons (ciI (by omega)) rfl ?_ | refine SubS.cons (ciB (by assumption)) rfl ?_)); (case hh => repeat (first | exact SubH.nil | refine SubH.cons rfl rfl rfl ?_)))
  omega
 | none =>
  have hge : g.rules.length ≤ i := List.getElem?_eq_none_iff.1 hq
  (repeat (first | ((with_reducible refine VOps.same ?_); (first | (refine VOps.nil ?_; try dsimp only [VThen, VBlock]) | refine VOps.vP (VPure.move rfl rfl) ?_ | refine VOps.vP (VPure.len_map TI.und' rfl rfl) ?_ | refine VOps.vP (VPure.field_ptr rfl rfl rfl) ?_ | refine VOps.vV (VLoad.box1 rfl rfl rfl rfl (by rfl) (by decide)) ?_ | refine VOps.vP (VPure.lss rfl rfl rfl) ?_)) | refine VCode.seq ?_ | refine VCode.region rfl ?_))
  refine VCode.cond_f rfl (decide_eq_false (by omega)) ?_
  (repeat (first | ((with_reducible refine VOps.same ?_); (first | (refine VOps.nil ?_; try dsimp only [VThen, VBlock]) | refine VOps.vP (VPure.assign rfl rfl) ?_)) | refine VCode.seq ?_ | refine VCode.region rfl ?_ | refine VCode.exit ?_))
  refine VCode.retD rfl rfl (.tmp rfl .nil) ?_
  rfl
end Go.Proofs.Ytfjfbapiheehaaa.V
end

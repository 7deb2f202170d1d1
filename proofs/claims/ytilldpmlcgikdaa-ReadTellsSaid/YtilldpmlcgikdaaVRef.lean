/- read: the document's reader; ReadTells. -/
import Derived.Test.YtilldpmlcgikdaaVCounts
set_option linter.unusedVariables false
set_option linter.unusedSimpArgs false
namespace Go.Proofs.Ytilldpmlcgikdaa.V
open Go Go.RowKit Go.Proofs.Ytilldpmlcgikdaa.P
def atOf (l : List Tok) (e : Int) (k : Nat) : Int := match l[k]? with
  | some t => t.f2
  | none => e
set_option maxHeartbeats 1000000 in
theorem of_v (l : List Tok) (e : Int) (k : Nat) : VCalls Try.prog 18 [.agg [.sl 3 (l.map encTok), .val (.int .i64 e)], .val (.int .i64 (k : Int))] [] 0 (Gives (.val (.int .i64 (atOf l e k)))) := by
  refine VCalls.enter (n := 18) Try.func18 rfl rfl (by simp) (fun cx hcx => ?_)
  cases ht : l[k]? with
  | some t =>
    have hlt : k < l.length := (List.getElem?_eq_some_iff.1 ht).1
    (repeat (first | ((with_reducible refine VOps.same ?_); (first | (refine VOps.nil ?_; dsimp only [VThen, VBlock]) | refine VOps.vp (by rfl) (by kernel_rfl) (by rfl) (VPure.move rfl rfl) ?_ | refine VOps.vp (by rfl) (by kernel_rfl) (by rfl) (VPure.assign rfl rfl) ?_ | refine VOps.vp (by rfl) (by kernel_rfl) (by rfl) (VPure.len_map TI.und' rfl rfl) ?_ | refine VOps.vp (by rfl) (by kernel_rfl) (by rfl) (VPure.field_ptr rfl rfl rfl) ?_ | refine VOps.vv (by rfl) (by kernel_rfl) (by rfl) (VLoad.box1 rfl rfl rfl rfl (by rfl) (by decide)) ?_ | refine VOps.vp (by rfl) (by kernel_rfl) (by rfl) (VPure.lss rfl rfl rfl) ?_ | refine VOps.box rfl rfl (by kernel_rfl) rfl rfl rfl rfl ?_)) | refine VCode.seq ?_ | refine VCode.region rfl ?_))
    refine VCode.cond_t rfl (decide_eq_true (by omega)) ?_
    (repeat (first | ((with_reducible refine VOps.same ?_); (first | (refine VOps.nil ?_; dsimp only [VThen, VBlock]) | refine VOps.vp (by rfl) (by kernel_rfl) (by rfl) (VPure.move rfl rfl) ?_ | refine VOps.vp (by rfl) (by kernel_rfl) (by rfl) (VPure.assign rfl rfl) ?_ | refine VOps.vp (by rfl) (by kernel_rfl) (by rfl) (VPure.idx_map rfl rfl rfl (by assumption)) ?_ | refine VOps.vp (by rfl) (by kernel_rfl) (by rfl) (VPure.field_el rfl rfl) ?_ | refine VOps.vp (by rfl) (by kernel_rfl) (by rfl) (VPure.field_ptr rfl rfl rfl) ?_ | refine VOps.vv (by rfl) (by kernel_rfl) (by rfl) (VLoad.el1 rfl rfl rfl (by rfl)) ?_ | refine VOps.vv (by rfl) (by kernel_rfl) (by rfl) (VLoad.box1 rfl rfl rfl rfl (by rfl) (by decide)) ?_)) | refine VCode.seq ?_ | refine VCode.region rfl ?_))
    refine VCode.give hcx rfl rfl rfl rfl rfl ?_
    unfold atOf; rw [ht]; rfl
  | none =>
    have hge : l.length ≤ k := List.getElem?_eq_none_iff.1 ht
    (repeat (first | ((with_reducible refine VOps.same ?_); (first | (refine VOps.nil ?_; dsimp only [VThen, VBlock]) | refine VOps.vp (by rfl) (by kernel_rfl) (by rfl) (VPure.move rfl rfl) ?_ | refine VOps.vp (by rfl) (by kernel_rfl) (by rfl) (VPure.assign rfl rfl) ?_ | refine VOps.vp (by rfl) (by kernel_rfl) (by rfl) (VPure.len_map TI.und' rfl rfl) ?_ | refine VOps.vp (by rfl) (by kernel_rfl) (by rfl) (VPure.field_ptr rfl rfl rfl) ?_ | refine VOps.vv (by rfl) (by kernel_rfl) (by rfl) (VLoad.box1 rfl rfl rfl rfl (by rfl) (by decide)) ?_ | refine VOps.vp (by rfl) (by kernel_rfl) (by rfl) (VPure.lss rfl rfl rfl) ?_ | refine VOps.box rfl rfl (by kernel_rfl) rfl rfl rfl rfl ?_)) | refine VCode.seq ?_ | refine VCode.region rfl ?_))
    refine VCode.cond_f rfl (decide_eq_false (by omega)) ?_
    (repeat (first | ((with_reducible refine VOps.same ?_); (first | (refine VOps.nil ?_; dsimp only [VThen, VBlock]) | refine VOps.vp (by rfl) (by kernel_rfl) (by rfl) (VPure.assign rfl rfl) ?_ | refine VOps.vp (by rfl) (by kernel_rfl) (by rfl) (VPure.field_ptr rfl rfl rfl) ?_ | refine VOps.vv (by rfl) (by kernel_rfl) (by rfl) (VLoad.box1 rfl rfl rfl rfl (by rfl) (by decide)) ?_)) | refine VCode.seq ?_ | refine VCode.region rfl ?_ | refine VCode.skip ?_))
    refine VCode.give hcx rfl rfl rfl rfl rfl ?_
    unfold atOf; rw [ht]
theorem drop_some {l : List Tok} {k : Nat} {t : Tok} (h : l[k]? = some t) : l.drop k = t :: l.drop (k + 1) := by
  obtain ⟨hlt, rfl⟩ := List.getElem?_eq_some_iff.1 h
  exact List.drop_eq_getElem_cons hlt
theorem drop_none {l : List Tok} {k : Nat} (h : l[k]? = none) : l.drop k = [] := List.drop_eq_nil_of_le (List.getElem?_eq_none_iff.1 h)
def refV (r : Except (Int × Int) (RS.Out Tok)) : V := .agg [.sl 4 ((altsOut r).map encAlt), .val (.int .i64 (altsE r)), .val (.int .i64 (altsAt r))]
set_option maxHeartbeats 4000000 in
theorem ref_v (l : List Tok) (e : Int) (hl : l.length ≤ 700) : VCalls Try.prog 12 [.sl 3 (l.map encTok), .val (.int .i64 e)] [] 0 (Gives (refV (rrun e (.start, []) l))) := by
  refine VCalls.enterD (n := 144) Try.func12 rfl rfl (by simp) rfl (fun cx hcx => ?_)
  (repeat (first | ((with_reducible refine VOps.same ?_); (first | (refine VOps.nil ?_; dsimp only [VThen, VBlock]) | refine VOps.vp (by rfl) (by kernel_rfl) (by rfl) (VPure.move rfl rfl) ?_ | refine VOps.vp (by rfl) (by kernel_rfl) (by rfl) (VPure.assign rfl rfl) ?_ | refine VOps.vp (by rfl) (by kernel_rfl) (by rfl) (VPure.buildC rfl (by kernel_rfl) rfl (by rfl)) ?_ | refine VOps.alloc rfl rfl (by kernel_rfl) rfl (by kernel_rfl) rfl ?_ | refine VOps.store rfl rfl (by kernel_rfl) rfl rfl rfl rfl rfl rfl (Nat.le_of_ble_eq_true (by rfl)) rfl ?_)) | refine VCode.seq ?_ | refine VCode.region rfl ?_ | refine VCode.block ?_))
  refine VCode.nilObj 5 40 4 rfl ?_
  refine VCode.loop (fun m st => ∃ (k : Nat) (out : RS.Out Tok), k ≤ l.length ∧ m = l.length - k ∧ out.length ≤ 60 ∧ rrun e (.start, []) l = rrun e (.start, out) (l.drop k) ∧ st = ⟨[(6, .val (.int .i64 (k : Int))), (0, .sl 3 (l.map encTok)), (1, .val (.int .i64 e)), (4, .ptr 0 0), (5, .ref 1), (7, .ptr 2 0)], [(0, .cells 32 [.val (.slice none 0 0), .val (.int .i64 0), .val (.int .i64 0)]), (1, .arr 40 4 ((out.map altOf).map encAlt)), (2, .cells 53 [.sl 3 (l.map encTok), .val (.int .i64 e)])], 3⟩) l.length ?_ ?_
  · (refine Less.mk (l := [0, 2, 1]) hcx ?ss ?hh rfl (by decide) rfl ⟨0, [], by omega, by omega, by simp, rfl, rfl⟩; (case ss => repeat (first | exact SubS.nil | refine SubS.cons rfl rfl ?_ | refine SubS.cons (congrArg (fun z => some (V.val (Value.int IntKind.i64 z))) (by omega)) rfl ?_ | refine SubS.cons (congrArg (fun z => some (V.val (Value.bool z))) (by assumption)) rfl ?_)); (case hh => repeat (first | exact SubH.nil | refine SubH.cons rfl rfl rfl ?_)))
  rintro m st ⟨k, out, hk, rfl, ho, hR, rfl⟩
  cases ht : l[k]? with
  | none =>
    have hge : l.length ≤ k := List.getElem?_eq_none_iff.1 ht
    rw [drop_none ht] at hR
    (repeat (first | ((with_reducible refine VOps.same ?_); (first | refine VOps.vp (by rfl) (by kernel_rfl) (by rfl) (VPure.move rfl rfl) ?_ | refine VOps.vp (by rfl) (by kernel_rfl) (by rfl) (VPure.len_map TI.und' rfl rfl) ?_ | refine VOps.vp (by rfl) (by kernel_rfl) (by rfl) (VPure.lss rfl rfl rfl) ?_)) | refine VCode.seq ?_ | refine VCode.region rfl ?_))
    refine VOps.says (d := 18) (v := .val (.bool false)) rfl (by rw [decide_eq_false (by omega)]) ?_
    (repeat (first | ((with_reducible refine VOps.same ?_); (first | (refine VOps.nil ?_; dsimp only [VThen, VBlock]) | refine VOps.vp (by rfl) (by kernel_rfl) (by rfl) (VPure.move rfl rfl) ?_ | refine VOps.vp (by rfl) (by kernel_rfl) (by rfl) (VPure.len_arr TI.und' rfl rfl rfl) ?_ | refine VOps.vp (by rfl) (by kernel_rfl) (by rfl) (VPure.eqi rfl rfl rfl) ?_ | refine VOps.vp (by rfl) (by kernel_rfl) (by rfl) (VPure.pick_f rfl rfl rfl) ?_))))
    refine VCode.cond rfl (fun hb => ?_) (fun hb => ?_)
    · have ho0 : out = [] := by simpa using hb
      have hR : rrun e (.start, []) l = .error (12, e) := by rw [hR, ho0]; rfl
      (repeat (first | ((with_reducible refine VOps.same ?_); (first | refine VOps.vp (by rfl) (by kernel_rfl) (by rfl) (VPure.move rfl rfl) ?_ | refine VOps.vp (by rfl) (by kernel_rfl) (by rfl) (VPure.len_map TI.und' rfl rfl) ?_ | refine VOps.vp (by rfl) (by kernel_rfl) (by rfl) (VPure.geq rfl rfl rfl) ?_)) | refine VCode.seq ?_ | refine VCode.region rfl ?_ | refine VCode.block ?_ | refine VCode.skip ?_))
      refine VOps.says (d := 27) (v := .val (.bool true)) rfl (by rw [decide_eq_true (by omega)]) ?_
      (repeat (first | ((with_reducible refine VOps.same ?_); (first | (refine VOps.nil ?_; dsimp only [VThen, VBlock]) | refine VOps.vp (by rfl) (by kernel_rfl) (by rfl) (VPure.pick_t rfl rfl rfl) ?_ | refine VOps.passv rfl (by kernel_rfl) rfl ?_))))
      refine VCode.cond_t rfl rfl ?_
      (repeat (first | ((with_reducible refine VOps.same ?_); (first | refine VOps.vp (by rfl) (by kernel_rfl) (by rfl) (VPure.move rfl rfl) ?_ | refine VOps.vv (by rfl) (by kernel_rfl) (by rfl) (VLoad.boxA rfl rfl rfl (by rfl) (Nat.le_of_ble_eq_true (by rfl)) (by decide)) ?_)) | refine VCode.seq ?_ | refine VCode.region rfl ?_))
      refine VOps.pure rfl Try.func18 rfl (by kernel_rfl) rfl rfl rfl rfl rfl rfl rfl (of_v l e _) ?_
      (repeat (first | ((with_reducible refine VOps.same ?_); (first | (refine VOps.nil ?_; dsimp only [VThen, VBlock]) | refine VOps.vp (by rfl) (by kernel_rfl) (by rfl) (VPure.buildC rfl (by kernel_rfl) rfl (by rfl)) ?_ | refine VOps.store rfl rfl (by kernel_rfl) rfl rfl rfl rfl rfl rfl (Nat.le_of_ble_eq_true (by rfl)) rfl ?_))))
      refine VCode.nilC 0 0 4 rfl rfl rfl ?_
      refine VCode.retD rfl rfl (.cellA rfl rfl rfl (Nat.le_of_ble_eq_true (by rfl)) .nil) ?_
      rw [hR]; unfold atOf; rw [ht]; rfl
    · have ho0 : out ≠ [] := fun h => by rw [h] at hb; simp at hb
      have hR : rrun e (.start, []) l = .ok out := by
        rw [hR]; show RS.run _ _ _ _ _ = _
        simp [RS.run, RS.steps, RS.fin, ho0]
      refine VCode.freeze (id := 1) rfl ?_
      refine VCode.lessTo ⟨[(4, .ptr 0 0), (5, .sl 4 ((out.map altOf).map encAlt))], [(0, .cells 32 [.val (.slice none 0 0), .val (.int .i64 0), .val (.int .i64 0)])], 1⟩ ?_ ?_
      · (refine Less.mk (l := [0]) hcx ?ss ?hh rfl (by decide) rfl rfl; (case ss => repeat (first | exact SubS.nil | refine SubS.cons rfl rfl ?_ | refine SubS.cons (congrArg (fun z => some (V.val (Value.int IntKind.i64 z))) (by omega)) rfl ?_ | refine SubS.cons (congrArg (fun z => some (V.val (Value.bool z))) (by assumption)) rfl ?_)); (case hh => repeat (first | exact SubH.nil | refine SubH.cons rfl rfl rfl ?_)))
      (repeat (first | ((with_reducible refine VOps.same ?_); (first | (refine VOps.nil ?_; dsimp only [VThen, VBlock]) | refine VOps.vp (by rfl) (by kernel_rfl) (by rfl) (VPure.move rfl rfl) ?_ | refine VOps.vp (by rfl) (by kernel_rfl) (by rfl) (VPure.buildC rfl (by kernel_rfl) rfl (by rfl)) ?_ | refine VOps.store rfl rfl (by kernel_rfl) rfl rfl rfl rfl rfl rfl (Nat.le_of_ble_eq_true (by rfl)) rfl ?_)) | refine VCode.seq ?_ | refine VCode.region rfl ?_ | refine VCode.exit ?_))
      refine VCode.retD rfl rfl (.cellA rfl rfl rfl (Nat.le_of_ble_eq_true (by rfl)) .nil) ?_
      rw [hR]; rfl
  | some t =>
    have hlt : k < l.length := (List.getElem?_eq_some_iff.1 ht).1
    rw [drop_some ht, rrun_cons] at hR
    (repeat (first | ((with_reducible refine VOps.same ?_); (first | refine VOps.vp (by rfl) (by kernel_rfl) (by rfl) (VPure.move rfl rfl) ?_ | refine VOps.vp (by rfl) (by kernel_rfl) (by rfl) (VPure.len_map TI.und' rfl rfl) ?_ | refine VOps.vp (by rfl) (by kernel_rfl) (by rfl) (VPure.lss rfl rfl rfl) ?_)) | refine VCode.seq ?_ | refine VCode.region rfl ?_))
    refine VOps.says (d := 18) (v := .val (.bool true)) rfl (by rw [decide_eq_true (by omega)]) ?_
    (repeat (first | ((with_reducible refine VOps.same ?_); (first | (refine VOps.nil ?_; dsimp only [VThen, VBlock]) | refine VOps.vp (by rfl) (by kernel_rfl) (by rfl) (VPure.pick_t rfl rfl rfl) ?_ | refine VOps.passv rfl (by kernel_rfl) rfl ?_))))
    refine VCode.cond_t rfl rfl ?_
    (repeat (first | ((with_reducible refine VOps.same ?_); (first | refine VOps.vp (by rfl) (by kernel_rfl) (by rfl) (VPure.move rfl rfl) ?_ | refine VOps.vp (by rfl) (by kernel_rfl) (by rfl) (VPure.len_map TI.und' rfl rfl) ?_ | refine VOps.vp (by rfl) (by kernel_rfl) (by rfl) (VPure.geq rfl rfl rfl) ?_)) | refine VCode.seq ?_ | refine VCode.region rfl ?_ | refine VCode.block ?_ | refine VCode.skip ?_))
    refine VOps.says (d := 27) (v := .val (.bool false)) rfl (by rw [decide_eq_false (by omega)]) ?_
    (repeat (first | ((with_reducible refine VOps.same ?_); (first | (refine VOps.nil ?_; dsimp only [VThen, VBlock]) | refine VOps.vp (by rfl) (by kernel_rfl) (by rfl) (VPure.move rfl rfl) ?_ | refine VOps.vp (by rfl) (by kernel_rfl) (by rfl) (VPure.idx_map rfl rfl rfl (by assumption)) ?_ | refine VOps.vp (by rfl) (by kernel_rfl) (by rfl) (VPure.field_el rfl rfl) ?_ | refine VOps.vv (by rfl) (by kernel_rfl) (by rfl) (VLoad.el1 rfl rfl rfl (by rfl)) ?_ | refine VOps.vp (by rfl) (by kernel_rfl) (by rfl) (VPure.nei rfl rfl rfl) ?_ | refine VOps.vp (by rfl) (by kernel_rfl) (by rfl) (VPure.pick_f rfl rfl rfl) ?_))))
    refine VCode.cond rfl (fun hb => ?_) (fun hb => ?_)
    · have hb : ¬ TkOf t = 1 := by simpa using hb
      simp only [RS.step, if_neg hb] at hR
      (repeat (first | ((with_reducible refine VOps.same ?_); (first | refine VOps.vp (by rfl) (by kernel_rfl) (by rfl) (VPure.move rfl rfl) ?_ | refine VOps.vv (by rfl) (by kernel_rfl) (by rfl) (VLoad.boxA rfl rfl rfl (by rfl) (Nat.le_of_ble_eq_true (by rfl)) (by decide)) ?_)) | refine VCode.seq ?_ | refine VCode.region rfl ?_))
      refine VOps.pure rfl Try.func18 rfl (by kernel_rfl) rfl rfl rfl rfl rfl rfl rfl (of_v l e _) ?_
      (repeat (first | ((with_reducible refine VOps.same ?_); (first | (refine VOps.nil ?_; dsimp only [VThen, VBlock]) | refine VOps.vp (by rfl) (by kernel_rfl) (by rfl) (VPure.buildC rfl (by kernel_rfl) rfl (by rfl)) ?_ | refine VOps.store rfl rfl (by kernel_rfl) rfl rfl rfl rfl rfl rfl (Nat.le_of_ble_eq_true (by rfl)) rfl ?_))))
      refine VCode.nilC 0 0 4 rfl rfl rfl ?_
      refine VCode.retD rfl rfl (.cellA rfl rfl rfl (Nat.le_of_ble_eq_true (by rfl)) .nil) ?_
      rw [hR]; unfold atOf; rw [ht]; rfl
    have hb : TkOf t = 1 := by simpa using hb
    simp only [RS.step, if_pos hb] at hR
    (repeat (first | ((with_reducible refine VOps.same ?_); (first | (refine VOps.nil ?_; dsimp only [VThen, VBlock]) | refine VOps.vp (by rfl) (by kernel_rfl) (by rfl) (VPure.move rfl rfl) ?_ | refine VOps.vp (by rfl) (by kernel_rfl) (by rfl) (VPure.assign rfl rfl) ?_ | refine VOps.vp (by rfl) (by kernel_rfl) (by rfl) (VPure.len_map TI.und' rfl rfl) ?_ | refine VOps.vp (by rfl) (by kernel_rfl) (by rfl) (VPure.idx_map rfl rfl rfl (by assumption)) ?_ | refine VOps.vv (by rfl) (by kernel_rfl) (by rfl) (VLoad.elA rfl rfl (by rfl) (Nat.le_of_ble_eq_true (by rfl))) ?_ | refine VOps.vp (by rfl) (by kernel_rfl) (by rfl) (VPure.addK rfl rfl rfl (by omega)) ?_ | refine VOps.vp (by rfl) (by kernel_rfl) (by rfl) (VPure.geq rfl rfl rfl) ?_ | refine VOps.alloc rfl rfl (by kernel_rfl) rfl (by kernel_rfl) rfl ?_ | refine VOps.store rfl rfl (by kernel_rfl) rfl rfl rfl rfl rfl rfl (Nat.le_of_ble_eq_true (by rfl)) rfl ?_)) | refine VCode.seq ?_ | refine VCode.region rfl ?_ | refine VCode.skip ?_))
    refine VOps.says (d := 6) (v := .val (.int .i64 ((k + 1 : Nat) : Int))) rfl rfl ?_
    cases ht2 : l[k + 1]? with
    | none =>
      have ht := ht2
      have hge : l.length ≤ k + 1 := List.getElem?_eq_none_iff.1 ht2
      rw [drop_none ht2] at hR
      have hR : rrun e (.start, []) l = .error (12, e) := by rw [hR]; rfl
      refine VOps.says (d := 49) (v := .val (.bool true)) rfl (by rw [decide_eq_true (by omega)]) ?_
      (repeat (first | ((with_reducible refine VOps.same ?_); (first | (refine VOps.nil ?_; dsimp only [VThen, VBlock]) | refine VOps.vp (by rfl) (by kernel_rfl) (by rfl) (VPure.pick_t rfl rfl rfl) ?_ | refine VOps.passv rfl (by kernel_rfl) rfl ?_))))
      refine VCode.cond_t rfl rfl ?_
      (repeat (first | ((with_reducible refine VOps.same ?_); (first | refine VOps.vp (by rfl) (by kernel_rfl) (by rfl) (VPure.move rfl rfl) ?_ | refine VOps.vv (by rfl) (by kernel_rfl) (by rfl) (VLoad.boxA rfl rfl rfl (by rfl) (Nat.le_of_ble_eq_true (by rfl)) (by decide)) ?_)) | refine VCode.seq ?_ | refine VCode.region rfl ?_))
      refine VOps.pure rfl Try.func18 rfl (by kernel_rfl) rfl rfl rfl rfl rfl rfl rfl (of_v l e _) ?_
      (repeat (first | ((with_reducible refine VOps.same ?_); (first | (refine VOps.nil ?_; dsimp only [VThen, VBlock]) | refine VOps.vp (by rfl) (by kernel_rfl) (by rfl) (VPure.buildC rfl (by kernel_rfl) rfl (by rfl)) ?_ | refine VOps.store rfl rfl (by kernel_rfl) rfl rfl rfl rfl rfl rfl (Nat.le_of_ble_eq_true (by rfl)) rfl ?_))))
      refine VCode.nilC 0 0 4 rfl rfl rfl ?_
      refine VCode.retD rfl rfl (.cellA rfl rfl rfl (Nat.le_of_ble_eq_true (by rfl)) .nil) ?_
      rw [hR]; unfold atOf; rw [ht]; rfl
    | some t2 =>
    have hlt2 : k + 1 < l.length := (List.getElem?_eq_some_iff.1 ht2).1
    rw [drop_some ht2, rrun_cons] at hR
    refine VOps.says (d := 49) (v := .val (.bool false)) rfl (by rw [decide_eq_false (by omega)]) ?_
    (repeat (first | ((with_reducible refine VOps.same ?_); (first | (refine VOps.nil ?_; dsimp only [VThen, VBlock]) | refine VOps.vp (by rfl) (by kernel_rfl) (by rfl) (VPure.move rfl rfl) ?_ | refine VOps.vp (by rfl) (by kernel_rfl) (by rfl) (VPure.idx_map rfl rfl rfl (by assumption)) ?_ | refine VOps.vp (by rfl) (by kernel_rfl) (by rfl) (VPure.field_el rfl rfl) ?_ | refine VOps.vv (by rfl) (by kernel_rfl) (by rfl) (VLoad.el1 rfl rfl rfl (by rfl)) ?_ | refine VOps.vp (by rfl) (by kernel_rfl) (by rfl) (VPure.nei rfl rfl rfl) ?_ | refine VOps.vp (by rfl) (by kernel_rfl) (by rfl) (VPure.pick_f rfl rfl rfl) ?_))))
    refine VCode.cond rfl (fun hc => ?_) (fun hc => ?_)
    · have hc : ¬ TkOf t2 = 3 := by simpa using hc
      have ht := ht2
      simp only [RS.step, if_neg hc] at hR
      (repeat (first | ((with_reducible refine VOps.same ?_); (first | refine VOps.vp (by rfl) (by kernel_rfl) (by rfl) (VPure.move rfl rfl) ?_ | refine VOps.vv (by rfl) (by kernel_rfl) (by rfl) (VLoad.boxA rfl rfl rfl (by rfl) (Nat.le_of_ble_eq_true (by rfl)) (by decide)) ?_)) | refine VCode.seq ?_ | refine VCode.region rfl ?_))
      refine VOps.pure rfl Try.func18 rfl (by kernel_rfl) rfl rfl rfl rfl rfl rfl rfl (of_v l e _) ?_
      (repeat (first | ((with_reducible refine VOps.same ?_); (first | (refine VOps.nil ?_; dsimp only [VThen, VBlock]) | refine VOps.vp (by rfl) (by kernel_rfl) (by rfl) (VPure.buildC rfl (by kernel_rfl) rfl (by rfl)) ?_ | refine VOps.store rfl rfl (by kernel_rfl) rfl rfl rfl rfl rfl rfl (Nat.le_of_ble_eq_true (by rfl)) rfl ?_))))
      refine VCode.nilC 0 0 4 rfl rfl rfl ?_
      refine VCode.retD rfl rfl (.cellA rfl rfl rfl (Nat.le_of_ble_eq_true (by rfl)) .nil) ?_
      rw [hR]; unfold atOf; rw [ht]; rfl
    have hc : TkOf t2 = 3 := by simpa using hc
    simp only [RS.step, if_pos hc] at hR
    (repeat (first | ((with_reducible refine VOps.same ?_); (first | (refine VOps.nil ?_; dsimp only [VThen, VBlock]) | refine VOps.vp (by rfl) (by kernel_rfl) (by rfl) (VPure.move rfl rfl) ?_ | refine VOps.vp (by rfl) (by kernel_rfl) (by rfl) (VPure.assign rfl rfl) ?_ | refine VOps.vp (by rfl) (by kernel_rfl) (by rfl) (VPure.addK rfl rfl rfl (by omega)) ?_)) | refine VCode.seq ?_ | refine VCode.region rfl ?_ | refine VCode.block ?_ | refine VCode.skip ?_))
    refine VCode.loop (fun m st => ∃ (more : Bool) (k' : Nat) (out : RS.Out Tok), k + 2 ≤ k' ∧ k' ≤ l.length ∧ m = l.length - k' ∧ out.length ≤ 60 ∧ rrun e (.start, []) l = rrun e (if more = true then .body t [] else .start, out) (l.drop k') ∧ st = ⟨[(9, .val (.bool more)), (6, .val (.int .i64 (k' : Int))), (0, .sl 3 (l.map encTok)), (1, .val (.int .i64 e)), (4, .ptr 0 0), (5, .ref 1), (7, .ptr 2 0), (8, .ptr 3 0)], [(0, .cells 32 [.val (.slice none 0 0), .val (.int .i64 0), .val (.int .i64 0)]), (1, .arr 40 4 ((out.map altOf).map encAlt)), (2, .cells 53 [.sl 3 (l.map encTok), .val (.int .i64 e)]), (3, .cells 38 [.val (.int .i64 t.f0), .val (.string t.f1), .val (.int .i64 t.f2)])], 4⟩) (l.length - (k + 2)) ?_ ?_
    · (refine Less.mk (l := [0, 1, 2, 3]) hcx ?ss ?hh rfl (by decide) rfl ⟨true, k + 2, out, by omega, by omega, by omega, ho, hR, rfl⟩; (case ss => repeat (first | exact SubS.nil | refine SubS.cons rfl rfl ?_ | refine SubS.cons (congrArg (fun z => some (V.val (Value.int IntKind.i64 z))) (by omega)) rfl ?_ | refine SubS.cons (congrArg (fun z => some (V.val (Value.bool z))) (by assumption)) rfl ?_)); (case hh => repeat (first | exact SubH.nil | refine SubH.cons rfl rfl rfl ?_)))
    clear hR ho out
    rintro m st ⟨more, k', out, hk1, hk2, rfl, ho, hR, rfl⟩
    cases more with
    | false =>
      (repeat (first | ((with_reducible refine VOps.same ?_); (first | (refine VOps.nil ?_; dsimp only [VThen, VBlock]) | refine VOps.vp (by rfl) (by kernel_rfl) (by rfl) (VPure.move rfl rfl) ?_)) | refine VCode.seq ?_ | refine VCode.region rfl ?_))
      refine VCode.cond_f rfl rfl ?_
      (repeat (first | refine VCode.exit ?_))
      (refine Less.mk (l := [0, 1, 2]) hcx ?ss ?hh rfl (by decide) rfl ⟨_, ?_, k', out, hk2, rfl, ho, hR, rfl⟩; (case ss => repeat (first | exact SubS.nil | refine SubS.cons rfl rfl ?_ | refine SubS.cons (congrArg (fun z => some (V.val (Value.int IntKind.i64 z))) (by omega)) rfl ?_ | refine SubS.cons (congrArg (fun z => some (V.val (Value.bool z))) (by assumption)) rfl ?_)); (case hh => repeat (first | exact SubH.nil | refine SubH.cons rfl rfl rfl ?_)))
      omega
    | true =>
    (repeat (first | ((with_reducible refine VOps.same ?_); (first | (refine VOps.nil ?_; dsimp only [VThen, VBlock]) | refine VOps.vp (by rfl) (by kernel_rfl) (by rfl) (VPure.move rfl rfl) ?_)) | refine VCode.seq ?_ | refine VCode.region rfl ?_))
    refine VCode.cond_t rfl rfl ?_
    (repeat (first | ((with_reducible refine VOps.same ?_); (first | (refine VOps.nil ?_; dsimp only [VThen, VBlock]) | refine VOps.vp (by rfl) (by kernel_rfl) (by rfl) (VPure.assign rfl rfl) ?_)) | refine VCode.seq ?_ | refine VCode.region rfl ?_ | refine VCode.block ?_ | refine VCode.skip ?_))
    refine VCode.nilObj 10 38 3 rfl ?_
    refine VCode.loop (fun m st => ∃ (q : Nat) (right : List Tok), k' ≤ q ∧ q ≤ l.length ∧ m = l.length - q ∧ right.length ≤ q ∧ rrun e (.start, []) l = rrun e (.body t right, out) (l.drop q) ∧ st = ⟨[(10, .ref 4), (6, .val (.int .i64 (q : Int))), (0, .sl 3 (l.map encTok)), (1, .val (.int .i64 e)), (4, .ptr 0 0), (5, .ref 1), (7, .ptr 2 0), (8, .ptr 3 0)], [(0, .cells 32 [.val (.slice none 0 0), .val (.int .i64 0), .val (.int .i64 0)]), (1, .arr 40 4 ((out.map altOf).map encAlt)), (2, .cells 53 [.sl 3 (l.map encTok), .val (.int .i64 e)]), (3, .cells 38 [.val (.int .i64 t.f0), .val (.string t.f1), .val (.int .i64 t.f2)]), (4, .arr 38 3 (right.map encTok))], 5⟩) (l.length - k') ?_ ?_
    · (refine Less.mk (l := [0, 1, 2, 3, 4]) hcx ?ss ?hh rfl (by decide) rfl ⟨k', [], by omega, by omega, by omega, by simp, hR, rfl⟩; (case ss => repeat (first | exact SubS.nil | refine SubS.cons rfl rfl ?_ | refine SubS.cons (congrArg (fun z => some (V.val (Value.int IntKind.i64 z))) (by omega)) rfl ?_ | refine SubS.cons (congrArg (fun z => some (V.val (Value.bool z))) (by assumption)) rfl ?_)); (case hh => repeat (first | exact SubH.nil | refine SubH.cons rfl rfl rfl ?_)))
    clear hR
    rintro m st ⟨q, right, hq1, hq2, rfl, hr, hR, rfl⟩
    cases hu : l[q]? with
    | none =>
      have ht := hu
      have hge : l.length ≤ q := List.getElem?_eq_none_iff.1 hu
      rw [drop_none hu] at hR
      have hR : rrun e (.start, []) l = .error (12, e) := by rw [hR]; rfl
      (repeat (first | ((with_reducible refine VOps.same ?_); (first | refine VOps.vp (by rfl) (by kernel_rfl) (by rfl) (VPure.move rfl rfl) ?_ | refine VOps.vp (by rfl) (by kernel_rfl) (by rfl) (VPure.len_map TI.und' rfl rfl) ?_ | refine VOps.vp (by rfl) (by kernel_rfl) (by rfl) (VPure.lss rfl rfl rfl) ?_)) | refine VCode.seq ?_ | refine VCode.region rfl ?_))
      refine VOps.says (d := 68) (v := .val (.bool false)) rfl (by rw [decide_eq_false (by omega)]) ?_
      (repeat (first | ((with_reducible refine VOps.same ?_); (first | refine VOps.passv rfl (by kernel_rfl) rfl ?_ | (refine VOps.nil ?_; dsimp only [VThen, VBlock]) | refine VOps.vp (by rfl) (by kernel_rfl) (by rfl) (VPure.pick_f rfl rfl rfl) ?_))))

      refine VCode.cond_f rfl rfl ?_
      (repeat (first | ((with_reducible refine VOps.same ?_); (first | refine VOps.vp (by rfl) (by kernel_rfl) (by rfl) (VPure.move rfl rfl) ?_ | refine VOps.vp (by rfl) (by kernel_rfl) (by rfl) (VPure.len_map TI.und' rfl rfl) ?_ | refine VOps.vp (by rfl) (by kernel_rfl) (by rfl) (VPure.geq rfl rfl rfl) ?_)) | refine VCode.seq ?_ | refine VCode.region rfl ?_ | refine VCode.exit ?_))
      refine VOps.says (d := 97) (v := .val (.bool true)) rfl (by rw [decide_eq_true (by omega)]) ?_
      (repeat (first | ((with_reducible refine VOps.same ?_); (first | (refine VOps.nil ?_; dsimp only [VThen, VBlock]) | refine VOps.vp (by rfl) (by kernel_rfl) (by rfl) (VPure.pick_t rfl rfl rfl) ?_ | refine VOps.passv rfl (by kernel_rfl) rfl ?_))))
      refine VCode.cond_t rfl rfl ?_
      (repeat (first | ((with_reducible refine VOps.same ?_); (first | refine VOps.vp (by rfl) (by kernel_rfl) (by rfl) (VPure.move rfl rfl) ?_ | refine VOps.vv (by rfl) (by kernel_rfl) (by rfl) (VLoad.boxA rfl rfl rfl (by rfl) (Nat.le_of_ble_eq_true (by rfl)) (by decide)) ?_)) | refine VCode.seq ?_ | refine VCode.region rfl ?_))
      refine VOps.pure rfl Try.func18 rfl (by kernel_rfl) rfl rfl rfl rfl rfl rfl rfl (of_v l e _) ?_
      (repeat (first | ((with_reducible refine VOps.same ?_); (first | (refine VOps.nil ?_; dsimp only [VThen, VBlock]) | refine VOps.vp (by rfl) (by kernel_rfl) (by rfl) (VPure.buildC rfl (by kernel_rfl) rfl (by rfl)) ?_ | refine VOps.store rfl rfl (by kernel_rfl) rfl rfl rfl rfl rfl rfl (Nat.le_of_ble_eq_true (by rfl)) rfl ?_))))
      refine VCode.nilC 0 0 4 rfl rfl rfl ?_
      refine VCode.retD rfl rfl (.cellA rfl rfl rfl (Nat.le_of_ble_eq_true (by rfl)) .nil) ?_
      rw [hR]; unfold atOf; rw [ht]; rfl
    | some u =>
    have hltq : q < l.length := (List.getElem?_eq_some_iff.1 hu).1
    rw [drop_some hu, rrun_cons] at hR
    (repeat (first | ((with_reducible refine VOps.same ?_); (first | refine VOps.vp (by rfl) (by kernel_rfl) (by rfl) (VPure.move rfl rfl) ?_ | refine VOps.vp (by rfl) (by kernel_rfl) (by rfl) (VPure.len_map TI.und' rfl rfl) ?_ | refine VOps.vp (by rfl) (by kernel_rfl) (by rfl) (VPure.lss rfl rfl rfl) ?_)) | refine VCode.seq ?_ | refine VCode.region rfl ?_))
    refine VOps.says (d := 68) (v := .val (.bool true)) rfl (by rw [decide_eq_true (by omega)]) ?_
    (repeat (first | ((with_reducible refine VOps.same ?_); (first | refine VOps.vp (by rfl) (by kernel_rfl) (by rfl) (VPure.move rfl rfl) ?_ | refine VOps.vp (by rfl) (by kernel_rfl) (by rfl) (VPure.idx_map rfl rfl rfl (by assumption)) ?_ | refine VOps.vp (by rfl) (by kernel_rfl) (by rfl) (VPure.field_el rfl rfl) ?_ | refine VOps.vv (by rfl) (by kernel_rfl) (by rfl) (VLoad.el1 rfl rfl rfl (by rfl)) ?_ | refine VOps.vp (by rfl) (by kernel_rfl) (by rfl) (VPure.eqi rfl rfl rfl) ?_))))
    refine VOps.bool (d := 75) rfl (fun h1 => ?_) (fun h1 => ?_)
    · have h12 : TkOf u = 1 ∨ TkOf u = 2 := .inl (of_decide_eq_true h1)
      (repeat (first | ((with_reducible refine VOps.same ?_); (first | (refine VOps.nil ?_; dsimp only [VThen, VBlock]) | refine VOps.vp (by rfl) (by kernel_rfl) (by rfl) (VPure.pick_t rfl rfl rfl) ?_ | refine VOps.passv rfl (by kernel_rfl) rfl ?_))))
      refine VCode.cond_t rfl rfl ?_
      simp only [RS.step, if_pos h12] at hR
      (repeat (first | ((with_reducible refine VOps.same ?_); (first | refine VOps.vp (by rfl) (by kernel_rfl) (by rfl) (VPure.move rfl rfl) ?_ | refine VOps.vp (by rfl) (by kernel_rfl) (by rfl) (VPure.idx_map rfl rfl rfl (by assumption)) ?_ | refine VOps.vv (by rfl) (by kernel_rfl) (by rfl) (VLoad.elA rfl rfl (by rfl) (Nat.le_of_ble_eq_true (by rfl))) ?_ | refine VOps.one rfl rfl (by kernel_rfl) rfl (by rfl) (by decide) (by decide) rfl (by rfl) (by rfl) ?_)) | refine VCode.seq ?_ | refine VCode.region rfl ?_ | refine VCode.block ?_ | refine VCode.skip ?_))
      refine VOps.append (zs := (right ++ [u]).map encTok) rfl rfl (by kernel_rfl) rfl (by rfl) (by decide) rfl (.arr rfl) rfl (.arr rfl) (by simp only [List.length_append, List.length_cons, List.length_nil, List.length_map]; unfold most; omega) (by simp only [List.length_append, List.length_cons, List.length_nil, List.length_map]; unfold most; omega) rfl ( by rw [List.map_append]; rfl) ?_
      (repeat (first | ((with_reducible refine VOps.same ?_); (first | (refine VOps.nil ?_; dsimp only [VThen, VBlock]) | refine VOps.vp (by rfl) (by kernel_rfl) (by rfl) (VPure.move rfl rfl) ?_ | refine VOps.vp (by rfl) (by kernel_rfl) (by rfl) (VPure.assign rfl rfl) ?_ | refine VOps.vp (by rfl) (by kernel_rfl) (by rfl) (VPure.addK rfl rfl rfl (by omega)) ?_)) | refine VCode.region rfl ?_))
      (refine Less.mk (l := [0, 1, 2, 3, 6]) hcx ?ss ?hh rfl (by decide) rfl ⟨_, ?_, q + 1, right ++ [u], by omega, by omega, rfl, by rw [List.length_append, List.length_singleton]; omega, hR, rfl⟩; (case ss => repeat (first | exact SubS.nil | refine SubS.cons rfl rfl ?_ | refine SubS.cons (congrArg (fun z => some (V.val (Value.int IntKind.i64 z))) (by omega)) rfl ?_ | refine SubS.cons (congrArg (fun z => some (V.val (Value.bool z))) (by assumption)) rfl ?_)); (case hh => repeat (first | exact SubH.nil | refine SubH.cons rfl rfl rfl ?_)))
      omega
    (repeat (first | ((with_reducible refine VOps.same ?_); (first | (refine VOps.nil ?_; dsimp only [VThen, VBlock]) | refine VOps.vp (by rfl) (by kernel_rfl) (by rfl) (VPure.move rfl rfl) ?_ | refine VOps.vp (by rfl) (by kernel_rfl) (by rfl) (VPure.idx_map rfl rfl rfl (by assumption)) ?_ | refine VOps.vp (by rfl) (by kernel_rfl) (by rfl) (VPure.field_el rfl rfl) ?_ | refine VOps.vv (by rfl) (by kernel_rfl) (by rfl) (VLoad.el1 rfl rfl rfl (by rfl)) ?_ | refine VOps.vp (by rfl) (by kernel_rfl) (by rfl) (VPure.eqi rfl rfl rfl) ?_ | refine VOps.vp (by rfl) (by kernel_rfl) (by rfl) (VPure.pick_t rfl rfl rfl) ?_ | refine VOps.vp (by rfl) (by kernel_rfl) (by rfl) (VPure.pick_f rfl rfl rfl) ?_))))
    refine VCode.cond rfl (fun h2 => ?_) (fun h2 => ?_)
    · have h12 : TkOf u = 1 ∨ TkOf u = 2 := .inr (of_decide_eq_true h2)
      simp only [RS.step, if_pos h12] at hR
      (repeat (first | ((with_reducible refine VOps.same ?_); (first | refine VOps.vp (by rfl) (by kernel_rfl) (by rfl) (VPure.move rfl rfl) ?_ | refine VOps.vp (by rfl) (by kernel_rfl) (by rfl) (VPure.idx_map rfl rfl rfl (by assumption)) ?_ | refine VOps.vv (by rfl) (by kernel_rfl) (by rfl) (VLoad.elA rfl rfl (by rfl) (Nat.le_of_ble_eq_true (by rfl))) ?_ | refine VOps.one rfl rfl (by kernel_rfl) rfl (by rfl) (by decide) (by decide) rfl (by rfl) (by rfl) ?_)) | refine VCode.seq ?_ | refine VCode.region rfl ?_ | refine VCode.block ?_ | refine VCode.skip ?_))
      refine VOps.append (zs := (right ++ [u]).map encTok) rfl rfl (by kernel_rfl) rfl (by rfl) (by decide) rfl (.arr rfl) rfl (.arr rfl) (by simp only [List.length_append, List.length_cons, List.length_nil, List.length_map]; unfold most; omega) (by simp only [List.length_append, List.length_cons, List.length_nil, List.length_map]; unfold most; omega) rfl ( by rw [List.map_append]; rfl) ?_
      (repeat (first | ((with_reducible refine VOps.same ?_); (first | (refine VOps.nil ?_; dsimp only [VThen, VBlock]) | refine VOps.vp (by rfl) (by kernel_rfl) (by rfl) (VPure.move rfl rfl) ?_ | refine VOps.vp (by rfl) (by kernel_rfl) (by rfl) (VPure.assign rfl rfl) ?_ | refine VOps.vp (by rfl) (by kernel_rfl) (by rfl) (VPure.addK rfl rfl rfl (by omega)) ?_)) | refine VCode.region rfl ?_))
      (refine Less.mk (l := [0, 1, 2, 3, 6]) hcx ?ss ?hh rfl (by decide) rfl ⟨_, ?_, q + 1, right ++ [u], by omega, by omega, rfl, by rw [List.length_append, List.length_singleton]; omega, hR, rfl⟩; (case ss => repeat (first | exact SubS.nil | refine SubS.cons rfl rfl ?_ | refine SubS.cons (congrArg (fun z => some (V.val (Value.int IntKind.i64 z))) (by omega)) rfl ?_ | refine SubS.cons (congrArg (fun z => some (V.val (Value.bool z))) (by assumption)) rfl ?_)); (case hh => repeat (first | exact SubH.nil | refine SubH.cons rfl rfl rfl ?_)))
      omega
    have h12 : ¬ (TkOf u = 1 ∨ TkOf u = 2) := fun h => h.elim (of_decide_eq_false h1) (of_decide_eq_false h2)
    simp only [RS.step, if_neg h12] at hR
    refine VCode.freeze (id := 4) rfl ?_
    refine VCode.lessTo ⟨[(10, .sl 3 (right.map encTok)), (6, .val (.int .i64 (q : Int))), (0, .sl 3 (l.map encTok)), (1, .val (.int .i64 e)), (4, .ptr 0 0), (5, .ref 1), (7, .ptr 2 0), (8, .ptr 3 0)], [(0, .cells 32 [.val (.slice none 0 0), .val (.int .i64 0), .val (.int .i64 0)]), (1, .arr 40 4 ((out.map altOf).map encAlt)), (2, .cells 53 [.sl 3 (l.map encTok), .val (.int .i64 e)]), (3, .cells 38 [.val (.int .i64 t.f0), .val (.string t.f1), .val (.int .i64 t.f2)])], 4⟩ ?_ ?_
    · (refine Less.mk (l := [0, 1, 2, 3]) hcx ?ss ?hh rfl (by decide) rfl rfl; (case ss => repeat (first | exact SubS.nil | refine SubS.cons rfl rfl ?_ | refine SubS.cons (congrArg (fun z => some (V.val (Value.int IntKind.i64 z))) (by omega)) rfl ?_ | refine SubS.cons (congrArg (fun z => some (V.val (Value.bool z))) (by assumption)) rfl ?_)); (case hh => repeat (first | exact SubH.nil | refine SubH.cons rfl rfl rfl ?_)))
    (repeat (first | ((with_reducible refine VOps.same ?_); (first | refine VOps.vp (by rfl) (by kernel_rfl) (by rfl) (VPure.move rfl rfl) ?_ | refine VOps.vp (by rfl) (by kernel_rfl) (by rfl) (VPure.len_map TI.und' rfl rfl) ?_ | refine VOps.vp (by rfl) (by kernel_rfl) (by rfl) (VPure.geq rfl rfl rfl) ?_)) | refine VCode.seq ?_ | refine VCode.region rfl ?_ | refine VCode.exit ?_))
    refine VOps.says (d := 97) (v := .val (.bool false)) rfl (by rw [decide_eq_false (by omega)]) ?_
    (repeat (first | ((with_reducible refine VOps.same ?_); (first | refine VOps.vp (by rfl) (by kernel_rfl) (by rfl) (VPure.move rfl rfl) ?_ | refine VOps.vp (by rfl) (by kernel_rfl) (by rfl) (VPure.idx_map rfl rfl rfl (by assumption)) ?_ | refine VOps.vp (by rfl) (by kernel_rfl) (by rfl) (VPure.field_el rfl rfl) ?_ | refine VOps.vv (by rfl) (by kernel_rfl) (by rfl) (VLoad.el1 rfl rfl rfl (by rfl)) ?_ | refine VOps.vp (by rfl) (by kernel_rfl) (by rfl) (VPure.nei rfl rfl rfl) ?_))))
    refine VOps.bool (d := 104) rfl (fun h4 => ?_) (fun h4 => ?_)
    · (repeat (first | ((with_reducible refine VOps.same ?_); (first | (refine VOps.nil ?_; dsimp only [VThen, VBlock]) | refine VOps.vp (by rfl) (by kernel_rfl) (by rfl) (VPure.move rfl rfl) ?_ | refine VOps.vp (by rfl) (by kernel_rfl) (by rfl) (VPure.idx_map rfl rfl rfl (by assumption)) ?_ | refine VOps.vp (by rfl) (by kernel_rfl) (by rfl) (VPure.field_el rfl rfl) ?_ | refine VOps.vv (by rfl) (by kernel_rfl) (by rfl) (VLoad.el1 rfl rfl rfl (by rfl)) ?_ | refine VOps.vp (by rfl) (by kernel_rfl) (by rfl) (VPure.nei rfl rfl rfl) ?_ | refine VOps.vp (by rfl) (by kernel_rfl) (by rfl) (VPure.pick_t rfl rfl rfl) ?_ | refine VOps.vp (by rfl) (by kernel_rfl) (by rfl) (VPure.pick_f rfl rfl rfl) ?_))))
      refine VCode.cond rfl (fun h5 => ?_) (fun h5 => ?_)
      · have h45 : ¬ (TkOf u = 4 ∨ TkOf u = 5) := by
          have h4 : ¬ u.f0 = 4 := by simpa using h4
          have h5 : ¬ u.f0 = 5 := by simpa using h5
          exact fun h => h.elim h4 h5
        have ht := hu
        simp only [if_neg h45] at hR
        (repeat (first | ((with_reducible refine VOps.same ?_); (first | refine VOps.vp (by rfl) (by kernel_rfl) (by rfl) (VPure.move rfl rfl) ?_ | refine VOps.vv (by rfl) (by kernel_rfl) (by rfl) (VLoad.boxA rfl rfl rfl (by rfl) (Nat.le_of_ble_eq_true (by rfl)) (by decide)) ?_)) | refine VCode.seq ?_ | refine VCode.region rfl ?_))
        refine VOps.pure rfl Try.func18 rfl (by kernel_rfl) rfl rfl rfl rfl rfl rfl rfl (of_v l e _) ?_
        (repeat (first | ((with_reducible refine VOps.same ?_); (first | (refine VOps.nil ?_; dsimp only [VThen, VBlock]) | refine VOps.vp (by rfl) (by kernel_rfl) (by rfl) (VPure.buildC rfl (by kernel_rfl) rfl (by rfl)) ?_ | refine VOps.store rfl rfl (by kernel_rfl) rfl rfl rfl rfl rfl rfl (Nat.le_of_ble_eq_true (by rfl)) rfl ?_))))
        refine VCode.nilC 0 0 4 rfl rfl rfl ?_
        refine VCode.retD rfl rfl (.cellA rfl rfl rfl (Nat.le_of_ble_eq_true (by rfl)) .nil) ?_
        rw [hR]; unfold atOf; rw [ht]; rfl
      · have h45 : TkOf u = 4 ∨ TkOf u = 5 := .inr (by simpa using h5)
        simp only [if_pos h45] at hR
        have hol : (out.map altOf).length = out.length := List.length_map ..
        (repeat (first | ((with_reducible refine VOps.same ?_); (first | (refine VOps.nil ?_; dsimp only [VThen, VBlock]) | refine VOps.vp (by rfl) (by kernel_rfl) (by rfl) (VPure.move rfl rfl) ?_ | refine VOps.vp (by rfl) (by kernel_rfl) (by rfl) (VPure.assign rfl rfl) ?_ | refine VOps.vp (by rfl) (by kernel_rfl) (by rfl) (VPure.len_arr TI.und' rfl rfl rfl) ?_ | refine VOps.vp (by rfl) (by kernel_rfl) (by rfl) (VPure.idx_map rfl rfl rfl (by assumption)) ?_ | refine VOps.vp (by rfl) (by kernel_rfl) (by rfl) (VPure.field_el rfl rfl) ?_ | refine VOps.vv (by rfl) (by kernel_rfl) (by rfl) (VLoad.el1 rfl rfl rfl (by rfl)) ?_ | refine VOps.vp (by rfl) (by kernel_rfl) (by rfl) (VPure.addK rfl rfl rfl (by omega)) ?_ | refine VOps.vp (by rfl) (by kernel_rfl) (by rfl) (VPure.geq rfl rfl rfl) ?_ | refine VOps.vp (by rfl) (by kernel_rfl) (by rfl) (VPure.eqi rfl rfl rfl) ?_)) | refine VCode.seq ?_ | refine VCode.region rfl ?_ | refine VCode.skip ?_))
        refine VOps.bool (d := 128) rfl (fun h6 => ?_) (fun h6 => ?_)
        · have h6 : 60 ≤ out.length := by have := of_decide_eq_true h6; rw [List.length_map] at this; omega
          have hR : rrun e (.start, []) l = .error (14, t.f2) := by rw [hR, if_pos (.inl h6)]
          (repeat (first | ((with_reducible refine VOps.same ?_); (first | (refine VOps.nil ?_; dsimp only [VThen, VBlock]) | refine VOps.vp (by rfl) (by kernel_rfl) (by rfl) (VPure.pick_t rfl rfl rfl) ?_ | refine VOps.passv rfl (by kernel_rfl) rfl ?_))))
          refine VCode.cond_t rfl rfl ?_
          (repeat (first | ((with_reducible refine VOps.same ?_); (first | (refine VOps.nil ?_; dsimp only [VThen, VBlock]) | refine VOps.vp (by rfl) (by kernel_rfl) (by rfl) (VPure.field_ptr rfl rfl rfl) ?_ | refine VOps.vv (by rfl) (by kernel_rfl) (by rfl) (VLoad.box1 rfl rfl rfl rfl (by rfl) (by decide)) ?_ | refine VOps.vp (by rfl) (by kernel_rfl) (by rfl) (VPure.buildC rfl (by kernel_rfl) rfl (by rfl)) ?_ | refine VOps.store rfl rfl (by kernel_rfl) rfl rfl rfl rfl rfl rfl (Nat.le_of_ble_eq_true (by rfl)) rfl ?_)) | refine VCode.seq ?_ | refine VCode.region rfl ?_))
          refine VCode.nilC 0 0 4 rfl rfl rfl ?_
          refine VCode.retD rfl rfl (.cellA rfl rfl rfl (Nat.le_of_ble_eq_true (by rfl)) .nil) ?_
          rw [hR]; rfl
        have h6 : ¬ 60 ≤ out.length := by have := of_decide_eq_false h6; rw [List.length_map] at this; omega
        (repeat (first | ((with_reducible refine VOps.same ?_); (first | (refine VOps.nil ?_; dsimp only [VThen, VBlock]) | refine VOps.vp (by rfl) (by kernel_rfl) (by rfl) (VPure.move rfl rfl) ?_ | refine VOps.vp (by rfl) (by kernel_rfl) (by rfl) (VPure.len_map TI.und' rfl rfl) ?_ | refine VOps.vp (by rfl) (by kernel_rfl) (by rfl) (VPure.gtr rfl rfl rfl) ?_ | refine VOps.vp (by rfl) (by kernel_rfl) (by rfl) (VPure.pick_f rfl rfl rfl) ?_))))
        refine VCode.cond rfl (fun h7 => ?_) (fun h7 => ?_)
        · have h7 : 8 < right.length := by have := of_decide_eq_true h7; omega
          have hR : rrun e (.start, []) l = .error (14, t.f2) := by rw [hR, if_pos (.inr h7)]
          (repeat (first | ((with_reducible refine VOps.same ?_); (first | (refine VOps.nil ?_; dsimp only [VThen, VBlock]) | refine VOps.vp (by rfl) (by kernel_rfl) (by rfl) (VPure.field_ptr rfl rfl rfl) ?_ | refine VOps.vv (by rfl) (by kernel_rfl) (by rfl) (VLoad.box1 rfl rfl rfl rfl (by rfl) (by decide)) ?_ | refine VOps.vp (by rfl) (by kernel_rfl) (by rfl) (VPure.buildC rfl (by kernel_rfl) rfl (by rfl)) ?_ | refine VOps.store rfl rfl (by kernel_rfl) rfl rfl rfl rfl rfl rfl (Nat.le_of_ble_eq_true (by rfl)) rfl ?_)) | refine VCode.seq ?_ | refine VCode.region rfl ?_))
          refine VCode.nilC 0 0 4 rfl rfl rfl ?_
          refine VCode.retD rfl rfl (.cellA rfl rfl rfl (Nat.le_of_ble_eq_true (by rfl)) .nil) ?_
          rw [hR]; rfl
        have h7 : ¬ 8 < right.length := by have := of_decide_eq_false h7; omega
        simp only [if_neg (fun h : 60 ≤ out.length ∨ 8 < right.length => h.elim h6 h7)] at hR
        (repeat (first | ((with_reducible refine VOps.same ?_); (first | refine VOps.vp (by rfl) (by kernel_rfl) (by rfl) (VPure.move rfl rfl) ?_ | refine VOps.vv (by rfl) (by kernel_rfl) (by rfl) (VLoad.boxA rfl rfl rfl (by rfl) (Nat.le_of_ble_eq_true (by rfl)) (by decide)) ?_ | refine VOps.vp (by rfl) (by kernel_rfl) (by rfl) (VPure.buildC rfl (by kernel_rfl) rfl (by rfl)) ?_ | refine VOps.one rfl rfl (by kernel_rfl) rfl (by rfl) (by decide) (by decide) rfl (by rfl) (by rfl) ?_)) | refine VCode.region rfl ?_ | refine VCode.skip ?_))
        refine VOps.append (zs := ((out ++ [(t, right)]).map altOf).map encAlt) rfl rfl (by kernel_rfl) rfl (by rfl) (by decide) rfl (.arr rfl) rfl (.arr rfl) (by simp only [List.length_append, List.length_cons, List.length_nil, List.length_map]; unfold most; omega) (by simp only [List.length_append, List.length_cons, List.length_nil, List.length_map]; unfold most; omega) rfl ( by simp; rfl) ?_
        (repeat (first | ((with_reducible refine VOps.same ?_); (first | (refine VOps.nil ?_; dsimp only [VThen, VBlock]) | refine VOps.vp (by rfl) (by kernel_rfl) (by rfl) (VPure.assign rfl rfl) ?_))))
        (refine Less.mk (l := [0, 5, 2, 3]) hcx ?ss ?hh rfl (by decide) rfl ⟨_, ?_, decide (u.f0 = 4), q + 1, out ++ [(t, right)], by omega, by omega, rfl, by rw [List.length_append, List.length_singleton]; omega, ?_, rfl⟩; (case ss => repeat (first | exact SubS.nil | refine SubS.cons rfl rfl ?_ | refine SubS.cons (congrArg (fun z => some (V.val (Value.int IntKind.i64 z))) (by omega)) rfl ?_ | refine SubS.cons (congrArg (fun z => some (V.val (Value.bool z))) (by assumption)) rfl ?_)); (case hh => repeat (first | exact SubH.nil | refine SubH.cons rfl rfl rfl ?_)))
        · omega
        · rw [hR]; simp only [decide_eq_true_eq]
    · have h45 : TkOf u = 4 ∨ TkOf u = 5 := .inl (by simpa using h4)
      (repeat (first | ((with_reducible refine VOps.same ?_); (first | (refine VOps.nil ?_; dsimp only [VThen, VBlock]) | refine VOps.vp (by rfl) (by kernel_rfl) (by rfl) (VPure.pick_f rfl rfl rfl) ?_ | refine VOps.passv rfl (by kernel_rfl) rfl ?_))))
      refine VCode.cond_f rfl rfl ?_
      simp only [if_pos h45] at hR
      have hol : (out.map altOf).length = out.length := List.length_map ..
      (repeat (first | ((with_reducible refine VOps.same ?_); (first | (refine VOps.nil ?_; dsimp only [VThen, VBlock]) | refine VOps.vp (by rfl) (by kernel_rfl) (by rfl) (VPure.move rfl rfl) ?_ | refine VOps.vp (by rfl) (by kernel_rfl) (by rfl) (VPure.assign rfl rfl) ?_ | refine VOps.vp (by rfl) (by kernel_rfl) (by rfl) (VPure.len_arr TI.und' rfl rfl rfl) ?_ | refine VOps.vp (by rfl) (by kernel_rfl) (by rfl) (VPure.idx_map rfl rfl rfl (by assumption)) ?_ | refine VOps.vp (by rfl) (by kernel_rfl) (by rfl) (VPure.field_el rfl rfl) ?_ | refine VOps.vv (by rfl) (by kernel_rfl) (by rfl) (VLoad.el1 rfl rfl rfl (by rfl)) ?_ | refine VOps.vp (by rfl) (by kernel_rfl) (by rfl) (VPure.addK rfl rfl rfl (by omega)) ?_ | refine VOps.vp (by rfl) (by kernel_rfl) (by rfl) (VPure.geq rfl rfl rfl) ?_ | refine VOps.vp (by rfl) (by kernel_rfl) (by rfl) (VPure.eqi rfl rfl rfl) ?_)) | refine VCode.seq ?_ | refine VCode.region rfl ?_ | refine VCode.skip ?_))
      refine VOps.bool (d := 128) rfl (fun h6 => ?_) (fun h6 => ?_)
      · have h6 : 60 ≤ out.length := by have := of_decide_eq_true h6; rw [List.length_map] at this; omega
        have hR : rrun e (.start, []) l = .error (14, t.f2) := by rw [hR, if_pos (.inl h6)]
        (repeat (first | ((with_reducible refine VOps.same ?_); (first | (refine VOps.nil ?_; dsimp only [VThen, VBlock]) | refine VOps.vp (by rfl) (by kernel_rfl) (by rfl) (VPure.pick_t rfl rfl rfl) ?_ | refine VOps.passv rfl (by kernel_rfl) rfl ?_))))
        refine VCode.cond_t rfl rfl ?_
        (repeat (first | ((with_reducible refine VOps.same ?_); (first | (refine VOps.nil ?_; dsimp only [VThen, VBlock]) | refine VOps.vp (by rfl) (by kernel_rfl) (by rfl) (VPure.field_ptr rfl rfl rfl) ?_ | refine VOps.vv (by rfl) (by kernel_rfl) (by rfl) (VLoad.box1 rfl rfl rfl rfl (by rfl) (by decide)) ?_ | refine VOps.vp (by rfl) (by kernel_rfl) (by rfl) (VPure.buildC rfl (by kernel_rfl) rfl (by rfl)) ?_ | refine VOps.store rfl rfl (by kernel_rfl) rfl rfl rfl rfl rfl rfl (Nat.le_of_ble_eq_true (by rfl)) rfl ?_)) | refine VCode.seq ?_ | refine VCode.region rfl ?_))
        refine VCode.nilC 0 0 4 rfl rfl rfl ?_
        refine VCode.retD rfl rfl (.cellA rfl rfl rfl (Nat.le_of_ble_eq_true (by rfl)) .nil) ?_
        rw [hR]; rfl
      have h6 : ¬ 60 ≤ out.length := by have := of_decide_eq_false h6; rw [List.length_map] at this; omega
      (repeat (first | ((with_reducible refine VOps.same ?_); (first | (refine VOps.nil ?_; dsimp only [VThen, VBlock]) | refine VOps.vp (by rfl) (by kernel_rfl) (by rfl) (VPure.move rfl rfl) ?_ | refine VOps.vp (by rfl) (by kernel_rfl) (by rfl) (VPure.len_map TI.und' rfl rfl) ?_ | refine VOps.vp (by rfl) (by kernel_rfl) (by rfl) (VPure.gtr rfl rfl rfl) ?_ | refine VOps.vp (by rfl) (by kernel_rfl) (by rfl) (VPure.pick_f rfl rfl rfl) ?_))))
      refine VCode.cond rfl (fun h7 => ?_) (fun h7 => ?_)
      · have h7 : 8 < right.length := by have := of_decide_eq_true h7; omega
        have hR : rrun e (.start, []) l = .error (14, t.f2) := by rw [hR, if_pos (.inr h7)]
        (repeat (first | ((with_reducible refine VOps.same ?_); (first | (refine VOps.nil ?_; dsimp only [VThen, VBlock]) | refine VOps.vp (by rfl) (by kernel_rfl) (by rfl) (VPure.field_ptr rfl rfl rfl) ?_ | refine VOps.vv (by rfl) (by kernel_rfl) (by rfl) (VLoad.box1 rfl rfl rfl rfl (by rfl) (by decide)) ?_ | refine VOps.vp (by rfl) (by kernel_rfl) (by rfl) (VPure.buildC rfl (by kernel_rfl) rfl (by rfl)) ?_ | refine VOps.store rfl rfl (by kernel_rfl) rfl rfl rfl rfl rfl rfl (Nat.le_of_ble_eq_true (by rfl)) rfl ?_)) | refine VCode.seq ?_ | refine VCode.region rfl ?_))
        refine VCode.nilC 0 0 4 rfl rfl rfl ?_
        refine VCode.retD rfl rfl (.cellA rfl rfl rfl (Nat.le_of_ble_eq_true (by rfl)) .nil) ?_
        rw [hR]; rfl
      have h7 : ¬ 8 < right.length := by have := of_decide_eq_false h7; omega
      simp only [if_neg (fun h : 60 ≤ out.length ∨ 8 < right.length => h.elim h6 h7)] at hR
      (repeat (first | ((with_reducible refine VOps.same ?_); (first | refine VOps.vp (by rfl) (by kernel_rfl) (by rfl) (VPure.move rfl rfl) ?_ | refine VOps.vv (by rfl) (by kernel_rfl) (by rfl) (VLoad.boxA rfl rfl rfl (by rfl) (Nat.le_of_ble_eq_true (by rfl)) (by decide)) ?_ | refine VOps.vp (by rfl) (by kernel_rfl) (by rfl) (VPure.buildC rfl (by kernel_rfl) rfl (by rfl)) ?_ | refine VOps.one rfl rfl (by kernel_rfl) rfl (by rfl) (by decide) (by decide) rfl (by rfl) (by rfl) ?_)) | refine VCode.region rfl ?_ | refine VCode.skip ?_))
      refine VOps.append (zs := ((out ++ [(t, right)]).map altOf).map encAlt) rfl rfl (by kernel_rfl) rfl (by rfl) (by decide) rfl (.arr rfl) rfl (.arr rfl) (by simp only [List.length_append, List.length_cons, List.length_nil, List.length_map]; unfold most; omega) (by simp only [List.length_append, List.length_cons, List.length_nil, List.length_map]; unfold most; omega) rfl ( by simp; rfl) ?_
      (repeat (first | ((with_reducible refine VOps.same ?_); (first | (refine VOps.nil ?_; dsimp only [VThen, VBlock]) | refine VOps.vp (by rfl) (by kernel_rfl) (by rfl) (VPure.assign rfl rfl) ?_))))
      (refine Less.mk (l := [0, 5, 2, 3]) hcx ?ss ?hh rfl (by decide) rfl ⟨_, ?_, decide (u.f0 = 4), q + 1, out ++ [(t, right)], by omega, by omega, rfl, by rw [List.length_append, List.length_singleton]; omega, ?_, rfl⟩; (case ss => repeat (first | exact SubS.nil | refine SubS.cons rfl rfl ?_ | refine SubS.cons (congrArg (fun z => some (V.val (Value.int IntKind.i64 z))) (by omega)) rfl ?_ | refine SubS.cons (congrArg (fun z => some (V.val (Value.bool z))) (by assumption)) rfl ?_)); (case hh => repeat (first | exact SubH.nil | refine SubH.cons rfl rfl rfl ?_)))
      · omega
      · rw [hR]; simp only [decide_eq_true_eq]
set_option maxHeartbeats 4000000 in
theorem tells_v (l : List Tok) (e : Int) (hl : l.length ≤ 140737488355328) : VCalls Try.prog 3 [.sl 3 (l.map encTok), .val (.int .i64 e)] [] 0 (Gives (.val (.bool true))) := by
  refine VCalls.enter (n := 51) Try.func3 rfl rfl (by simp) (fun cx hcx => ?_)
  (repeat (first | ((with_reducible refine VOps.same ?_); (first | (refine VOps.nil ?_; dsimp only [VThen, VBlock]) | refine VOps.vp (by rfl) (by kernel_rfl) (by rfl) (VPure.move rfl rfl) ?_ | refine VOps.vp (by rfl) (by kernel_rfl) (by rfl) (VPure.assign rfl rfl) ?_)) | refine VCode.seq ?_ | refine VCode.region rfl ?_))
  refine VOps.pure rfl Try.func9 rfl (by kernel_rfl) rfl rfl rfl rfl rfl rfl rfl (fair_v l hl) ?_
  (repeat (first | ((with_reducible refine VOps.same ?_); (first | (refine VOps.nil ?_; dsimp only [VThen, VBlock]) | refine VOps.vp (by rfl) (by kernel_rfl) (by rfl) (VPure.not rfl rfl) ?_))))
  refine VCode.cond rfl (fun h1 => ?_) (fun h1 => ?_)
  · (repeat (first | refine VCode.seq ?_ | refine VCode.region rfl ?_)); refine VOps.pure rfl Try.func10 rfl (by kernel_rfl) rfl rfl rfl rfl rfl rfl rfl (wakes_v) ?_; (repeat (first | ((with_reducible refine VOps.same ?_); (first | (refine VOps.nil ?_; dsimp only [VThen, VBlock]) | refine VOps.vp (by rfl) (by kernel_rfl) (by rfl) (VPure.assign rfl rfl) ?_)))); refine VCode.give hcx rfl rfl rfl rfl rfl ?_; rfl
  have hfair : fair l = true := by simpa using h1
  obtain ⟨h700, h500⟩ := fair_len hfair
  obtain ⟨hb1, hb2⟩ := altsOut_bound e l
  (repeat (first | refine VCode.seq ?_ | refine VCode.region rfl ?_ | refine VCode.skip ?_))
  refine VOps.lit (rows := []) rfl rfl (by kernel_rfl) rfl (by kernel_rfl) (by rfl) (by decide) (by decide) rfl (by rfl) (by rfl) (by rfl) (by rfl) ?_
  (repeat (first | ((with_reducible refine VOps.same ?_); (first | refine VOps.vp (by rfl) (by kernel_rfl) (by rfl) (VPure.move rfl rfl) ?_))))
  refine VOps.append (zs := l.map encTok) rfl rfl (by kernel_rfl) rfl (by rfl) (by decide) rfl (.arr rfl) rfl (.sl) (by simp only [List.length_append, List.length_cons, List.length_nil, List.length_map]; unfold most; omega) (by simp only [List.length_append, List.length_cons, List.length_nil, List.length_map]; unfold most; omega) rfl (by simp) ?_
  (repeat (first | ((with_reducible refine VOps.same ?_); (first | (refine VOps.nil ?_; dsimp only [VThen, VBlock]) | refine VOps.vp (by rfl) (by kernel_rfl) (by rfl) (VPure.move rfl rfl) ?_ | refine VOps.vp (by rfl) (by kernel_rfl) (by rfl) (VPure.assign rfl rfl) ?_)) | refine VCode.seq ?_ | refine VCode.region rfl ?_))
  refine VOps.freeze (id := 1) rfl ?_
  refine VOps.gives rfl Try.func11 rfl (by kernel_rfl) rfl rfl rfl rfl rfl rfl rfl rfl (alts_w l e (by omega)) ?_
  (repeat (first | ((with_reducible refine VOps.same ?_); (first | (refine VOps.nil ?_; dsimp only [VThen, VBlock]) | refine VOps.vp (by rfl) (by kernel_rfl) (by rfl) (VPure.move rfl rfl) ?_ | refine VOps.vp (by rfl) (by kernel_rfl) (by rfl) (VPure.assign rfl rfl) ?_ | refine VOps.vp (by rfl) (by kernel_rfl) (by rfl) (VPure.extract rfl rfl rfl) ?_ | refine VOps.alloc rfl rfl (by kernel_rfl) rfl (by kernel_rfl) rfl ?_ | refine VOps.store rfl rfl (by kernel_rfl) rfl rfl rfl rfl rfl rfl (Nat.le_of_ble_eq_true (by rfl)) rfl ?_)) | refine VCode.seq ?_ | refine VCode.region rfl ?_))
  refine VOps.gives rfl Try.func12 rfl (by kernel_rfl) rfl rfl rfl rfl rfl rfl rfl rfl (ref_v l e h700) ?_
  (repeat (first | ((with_reducible refine VOps.same ?_); (first | (refine VOps.nil ?_; dsimp only [VThen, VBlock]) | refine VOps.vp (by rfl) (by kernel_rfl) (by rfl) (VPure.move rfl rfl) ?_ | refine VOps.vp (by rfl) (by kernel_rfl) (by rfl) (VPure.field_ptr rfl rfl rfl) ?_ | refine VOps.vv (by rfl) (by kernel_rfl) (by rfl) (VLoad.box1 rfl rfl rfl rfl (by rfl) (by decide)) ?_ | refine VOps.alloc rfl rfl (by kernel_rfl) rfl (by kernel_rfl) rfl ?_ | refine VOps.store rfl rfl (by kernel_rfl) rfl rfl rfl rfl rfl rfl (Nat.le_of_ble_eq_true (by rfl)) rfl ?_)) | refine VCode.seq ?_ | refine VCode.region rfl ?_))
  refine VOps.pure rfl Try.func13 rfl (by kernel_rfl) rfl rfl rfl rfl rfl rfl rfl (keepAlts_v (altsOut (rrun e (.start, []) l)) (altsOut (rrun e (.start, []) l)) (by omega) (fun x hx => by have := hb2 x hx; omega)) ?_
  (repeat (first | ((with_reducible refine VOps.same ?_); (first | refine VOps.vp (by rfl) (by kernel_rfl) (by rfl) (VPure.move rfl rfl) ?_))))
  refine VOps.says (d := 29) (v := .val (.bool true)) rfl (by simp) ?_
  (repeat (first | ((with_reducible refine VOps.same ?_); (first | refine VOps.vp (by rfl) (by kernel_rfl) (by rfl) (VPure.move rfl rfl) ?_ | refine VOps.vp (by rfl) (by kernel_rfl) (by rfl) (VPure.field_ptr rfl rfl rfl) ?_ | refine VOps.vv (by rfl) (by kernel_rfl) (by rfl) (VLoad.box1 rfl rfl rfl rfl (by rfl) (by decide)) ?_ | refine VOps.vp (by rfl) (by kernel_rfl) (by rfl) (VPure.eqi rfl rfl rfl) ?_ | refine VOps.vp (by rfl) (by kernel_rfl) (by rfl) (VPure.pick_t rfl rfl rfl) ?_))))
  refine VOps.says (d := 36) (v := .val (.bool true)) rfl (by simp) ?_
  (repeat (first | ((with_reducible refine VOps.same ?_); (first | refine VOps.vp (by rfl) (by kernel_rfl) (by rfl) (VPure.move rfl rfl) ?_ | refine VOps.vp (by rfl) (by kernel_rfl) (by rfl) (VPure.field_ptr rfl rfl rfl) ?_ | refine VOps.vv (by rfl) (by kernel_rfl) (by rfl) (VLoad.box1 rfl rfl rfl rfl (by rfl) (by decide)) ?_ | refine VOps.vp (by rfl) (by kernel_rfl) (by rfl) (VPure.eqi rfl rfl rfl) ?_ | refine VOps.vp (by rfl) (by kernel_rfl) (by rfl) (VPure.pick_t rfl rfl rfl) ?_))))
  refine VOps.says (d := 43) (v := .val (.bool true)) rfl (by simp) ?_
  (repeat (first | ((with_reducible refine VOps.same ?_); (first | refine VOps.vp (by rfl) (by kernel_rfl) (by rfl) (VPure.move rfl rfl) ?_))))
  refine VOps.pure rfl Try.func14 rfl (by kernel_rfl) rfl rfl rfl rfl rfl rfl rfl (keepTokens_v l l hl) ?_
  (repeat (first | ((with_reducible refine VOps.same ?_); (first | refine VOps.vp (by rfl) (by kernel_rfl) (by rfl) (VPure.move rfl rfl) ?_ | refine VOps.vp (by rfl) (by kernel_rfl) (by rfl) (VPure.pick_t rfl rfl rfl) ?_))))
  refine VOps.says (d := 48) (v := .val (.bool true)) rfl (by simp) ?_
  skip; refine VOps.pure rfl Try.func10 rfl (by kernel_rfl) rfl rfl rfl rfl rfl rfl rfl (wakes_v) ?_; (repeat (first | ((with_reducible refine VOps.same ?_); (first | (refine VOps.nil ?_; dsimp only [VThen, VBlock]) | refine VOps.vp (by rfl) (by kernel_rfl) (by rfl) (VPure.assign rfl rfl) ?_ | refine VOps.vp (by rfl) (by kernel_rfl) (by rfl) (VPure.pick_t rfl rfl rfl) ?_)))); refine VCode.give hcx rfl rfl rfl rfl rfl ?_; rfl
-- LAW ReadTells tells_law open_toks open_i64
theorem tells_law (l : List Tok) (g : (∀ a ∈ l, goodTok a) ∧ l.length * 32 ≤ reachBytes) (e : Int) (ge : (Lit.int .i64 e).wf = true) : VCalls Try.prog 3 [.sl 3 (l.map encTok), .val (.int .i64 e)] [] 0 (Gives (.val (.bool true))) :=
  tells_v l e (by have := g.2; have h : reachBytes < 140737488355328 := reachBytes_lt; omega)
end Go.Proofs.Ytilldpmlcgikdaa.V
